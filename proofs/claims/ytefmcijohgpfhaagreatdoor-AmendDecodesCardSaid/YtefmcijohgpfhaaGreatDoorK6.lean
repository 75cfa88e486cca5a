/- Contracts and plain facts that the closing text leans on (part 6). No condition of their own beyond those that each states. -/
import Derived.Test.YtefmcijohgpfhaaGreatDoorK5
set_option maxRecDepth 100000
set_option linter.unusedVariables false
set_option linter.unusedSimpArgs false
set_option maxRecDepth 100000
set_option linter.unusedVariables false
namespace Go.Proofs.YtefmcijohgpfhaaGreatDoor
open Go Go.Av Go.RowKit Go.Proofs Go.Pl
def kx (x : z8) : qk := vc x ++ [10] ++ wm [32, 32] (kj x.fields)
def encF (b : List z8) : qk := b.flatMap kx
theorem qn7 (a b : List z8) : encF (a ++ b) = encF a ++ encF b := by simp [encF]
theorem qf3 (x : z8) : encF [x] = kx x := by simp [encF]
theorem qkb : ∀ (k : Nat) (r : List Fld), w9 k r = .no ↔ ∀ f ∈ r, kz f
 | k, [] => by simp [w9]
 | k, f :: r => by
  unfold w9
  split
  ·rename_i h
   rw [qkb (k + 1) r]
   have := (qas f).1 h
   simp [this]
  ·rename_i h
   have h2 : ¬ kz f := fun g => h ((qas f).2 g)
   simp [h2]
theorem qq4 {fs : List Fld} (h : ww fs = .no) : fs ≠ [] ∧ fs.length ≤ 40 ∧ ∀ f ∈ fs, kz f := by
 unfold ww at h
 split at h
 ·exact absurd h (by simp)
 ·split at h
  ·exact absurd h (by simp)
  ·exact ⟨by assumption, by omega, (qkb _ _).1 h⟩
theorem qid {x : z8} (h : gErr x = .no) : x.fields.length ≤ 40 ∧ ∀ f ∈ x.fields, kz f := by
 unfold gErr at h
 split at h
 ·split at h
  ·rename_i h0; rw [h0]; simp
  ·exact absurd h (by simp)
 ·split at h
  ·exact (qq4 h).2
  ·exact absurd h (by simp)
theorem qoa : ∀ (k : Nat) (b : List z8), y7 k b = .no ↔ ∀ x ∈ b, gErr x = .no
 | k, [] => by simp [y7]
 | k, x :: b => by
  unfold y7
  split
  ·rename_i h
   rw [qoa (k + 1) b]
   have := (qhr x).1 h
   simp [this]
  ·rename_i h
   have h2 : ¬ gErr x = .no := fun g => h ((qhr x).2 g)
   simp [h2]
theorem qfi {b : List z8} (h : eErr b = .no) : 1 ≤ b.length ∧ b.length ≤ 40 ∧ ∀ x ∈ b, gErr x = .no := by
 unfold eErr at h
 split at h
 ·exact absurd h (by simp)
 ·exact ⟨by omega, by omega, (qoa _ _).1 h⟩
theorem qs0 {fs : List Fld} (hl : fs.length ≤ 40) (h : ∀ f ∈ fs, kz f) : qrd fs := ⟨by omega, fun f hf => by
 have := h f hf
 have h1 := this.1.2.1
 have h2 := this.2
 omega⟩
theorem qqm (xs : List FldV) (st : List AObj) (hl : xs.length ≤ 40) (h : ∀ f ∈ xs, kz f) : zr E 46 [jd xs] st fun r st' => r = .tu [Sv (kj xs), .v .nilIface] ∧ st' = st := by
 have := qwc xs st (qs0 hl h)
 unfold qkc at this
 have h0 := (qhe xs).2 h
 rw [if_pos h0, h0] at this
 exact this
theorem qe7 (l : qk) : (wm [32, 32] l).length ≤ 3 * l.length := by
 unfold wm
 obtain ⟨h1, h2⟩ := qbx _ l (Nat.le_refl _)
 have := qfz [32, 32] (kh l)
 simp only [List.length_cons, List.length_nil] at this
 omega
theorem qg8 (x : z8) (h1 : -9223372036854775808 ≤ x.id) (h2 : x.id ≤ 9223372036854775807) : (vc x).length ≤ 100 := by
 have hn := Lib.itoa_length_le x.id h1 h2
 unfold vc wo
 split
 ·split
  ·simp; omega
  ·split
   ·simp; omega
   ·split <;> simp <;> omega
 ·simp
theorem qra {x : z8} (hB : EdB x) (h : gErr x = .no) : (kx x).length ≤ 700000 := by
 obtain ⟨hl, hg⟩ := qid h
 have h1 := qc4 x.fields hg
 have h2 := qe7 (kj x.fields)
 have h3 := qg8 x hB.id1 hB.id2
 unfold kx
 simp only [List.length_append, List.length_cons, List.length_nil]
 omega
theorem qga : ∀ (b : List z8), (∀ x ∈ b, EdB x) → (∀ x ∈ b, gErr x = .no) → (encF b).length ≤ 700000 * b.length
 | [], _, _ => by simp [encF]
 | x :: r, hB, h => by
  have ih := qga r (fun y hy => hB y (by simp [hy])) (fun y hy => h y (by simp [hy]))
  have h1 := qra (hB x (by simp)) (h x (by simp))
  have e : encF (x :: r) = kx x ++ encF r := by simp [encF]
  rw [e, List.length_append, List.length_cons]
  omega
set_option maxHeartbeats 2000000 in
theorem qem (b : List z8) (st : List AObj) (hB : ∀ x ∈ b, EdB x) (he : eErr b = .no) : zr E 15 [vu b] st fun r st' => r = .tu [Sv (encF b), .v .nilIface] ∧ st' = st := by
 refine z4 (yl (jn _) (jn _)) (zp Tryz.func15 rfl (Nat.le_of_ble_eq_true rfl) ?_)
 have hml : (b.map kc).length = b.length := by simp
 obtain ⟨hb1, hb40, hg⟩ := qfi he
 have hel := qga b hB hg
 repeat' (first
  | (apply qe9; exact rfl)
  | apply qr
  | apply q7
  | apply qe
  | apply qa
  | apply qn
  | apply qf
  | (apply qg; exact rfl; first | (apply zd; (first | assumption | omega)) | (apply zf; (first | assumption | omega)) | (apply ze; (first | exact rfl | assumption)) | (apply zg; (first | exact rfl | assumption)) | (apply cd_n <;> intro h) | (apply cd_t; (first | exact rfl | assumption)) | (apply cd_f; (first | exact rfl | assumption)) | (apply cd_d <;> intro h) | (apply cd_s <;> intro h))
  | (apply zo; (iterate 4 exact rfl))
  | (apply j3; exact rfl; exact rfl)
  | apply q8
  | (apply qi; exact Tryz.call45; exact qjf _ _ _ he hB (by omega)))
 refine vz b (fun pre s => ∃ q, (q = .v (.pointer none) ∨ q = .bx (st.length + 0) 0 0) ∧ StE [(5, .bx (st.length + 0) 0 0), (15, vu b), (16, Iv b.length), (17, Iv pre.length)] st [bldO 0 q (encF pre) (st.length + 1), .tip (encF pre).length 1 5] s) ⟨_, .inl rfl, we ⟨rfl, rfl, congrArg (fun n : Nat => Iv (n : Int)) hml, rfl, trivial⟩ rfl⟩ ?_ ?_
 ·rintro _ ⟨q, hq, t, ext, rfl⟩
  repeat' (first
   | apply qr
   | apply qe
   | apply qa
   | apply qf
   | (apply qt; (iterate 3 exact rfl))
   | (apply qg; exact rfl; first | (apply zd; (first | assumption | omega)) | (apply zf; (first | assumption | omega)) | (apply ze; (first | exact rfl | assumption)) | (apply zg; (first | exact rfl | assumption)) | (apply cd_n <;> intro h) | (apply cd_t; (first | exact rfl | assumption)) | (apply cd_f; (first | exact rfl | assumption)) | (apply cd_d <;> intro h) | (apply cd_s <;> intro h))
   | apply jp
   | apply q9
   | (refine qi Tryz.call50 (qfc st _ _ _ _ 0 1 0 _ _ rfl rfl rfl) ?_))
  exact qs rfl (ju rfl) ⟨rfl, kg _ _ _ _⟩
 ·rintro pre x rest _ hr ⟨q, hq, t, ext, rfl⟩
  have hlen : b.length = pre.length + (rest.length + 1) := by rw [hr]; simp
  have hget : (b.map kc)[pre.length]? = some (kc x) := by rw [hr]; simp
  have hxb := hB x (by rw [hr]; simp)
  have hxg := hg x (by rw [hr]; simp)
  obtain ⟨hfl, hfg⟩ := qid hxg
  have hpl := qga pre (fun y hy => hB y (by rw [hr]; simp [hy])) (fun y hy => hg y (by rw [hr]; simp [hy]))
  have hll := qg8 x hxb.id1 hxb.id2
  have hfo := qc4 x.fields hfg
  have hin := qe7 (kj x.fields)
  repeat' (first
   | apply qr
   | apply q7
   | apply qe
   | apply qa
   | apply qn
   | apply qf
   | (apply z1; exact rfl; exact rfl)
   | (apply qt; (iterate 3 exact rfl))
   | (apply qg; exact rfl; first | (apply zd; (first | assumption | omega)) | (apply zf; (first | assumption | omega)) | (apply ze; (first | exact rfl | assumption)) | (apply zg; (first | exact rfl | assumption)) | (apply cd_n <;> intro h) | (apply cd_t; (first | exact rfl | assumption)) | (apply cd_f; (first | exact rfl | assumption)) | (apply cd_d <;> intro h) | (apply cd_s <;> intro h))
   | (apply kl; exact rfl; exact rfl; (first | omega | (simp only [List.length_append, List.length_cons, List.length_nil]; omega) | (simp; omega)))
   | (apply j3; exact rfl; exact rfl)
   | (apply jh; exact rfl; exact rfl)
   | (apply za; (iterate 3 exact rfl))
   | (apply qv; (iterate 3 exact rfl))
   | (apply qx; (iterate 5 exact rfl))
   | (apply q6; (iterate 11 exact rfl))
   | (apply qj; (iterate 9 exact rfl))
   | apply q8
   | (apply qi; exact Tryz.call46; exact qqm _ _ hfl hfg)
   | (apply qi; exact Tryz.call48; exact qwh _ _ hxb.id1 hxb.id2)
   | (apply qi; exact Tryz.call49; exact qt6 _ _ _ (by omega) (by decide))
   | (apply zy (n := pre.length); (iterate 5 exact rfl); exact hget))
  refine qi Tryz.call47 (qgn st _ _ _ _ 0 1 0 _ _ _ rfl rfl ?_ ?_ rfl) ?_; (exact hq); (simp only [List.length_append, List.length_cons, List.length_nil]; omega)
  repeat' (first
   | apply qe
   | apply qa
   | apply qn
   | (apply jj; exact rfl; exact rfl; exact z2 (by omega) (by omega)))
  refine ⟨_, .inr rfl, vm ⟨rfl, rfl, rfl, ?_, trivial⟩ ?_⟩
  ·rw [xf pre x]; rfl
  ·have e : encF (pre ++ [x]) = encF pre ++ ((vc x ++ [10]) ++ wm [32, 32] (kj x.fields)) := by rw [qn7, qf3]; rfl
   rw [e]; rfl
theorem qlb (b : List z8) (st : List AObj) (e : ErrV) (hB : ∀ x ∈ b, EdB x) (hl : b.length < 9223372036854775808) (he : eErr b = e) (h0 : e.code ≠ 0) : zr E 15 [vu b] st fun r st' => r = .tu [Sv [], errA e] ∧ st' = st := by
 refine z4 (yl (jn _) (qc6 _)) (zp Tryz.func15 rfl (Nat.le_of_ble_eq_true rfl) ?_)
 cases e with
 | no => exact absurd rfl h0
 | num n =>
  repeat' (first
   | apply qr
   | apply qe
   | apply qa
   | apply qn
   | apply qf
   | (apply qg; exact rfl; first | (apply zd; (first | assumption | omega)) | (apply zf; (first | assumption | omega)) | (apply ze; (first | exact rfl | assumption)) | (apply zg; (first | exact rfl | assumption)) | (apply cd_n <;> intro h) | (apply cd_t; (first | exact rfl | assumption)) | (apply cd_f; (first | exact rfl | assumption)) | (apply cd_d <;> intro h) | (apply cd_s <;> intro h))
   | (apply ku; exact rfl; exact rfl)
   | apply q9
   | (apply qi; exact Tryz.call45; exact qjf _ _ _ he hB hl))
  exact qs rfl (ju rfl) ⟨rfl, _, rfl⟩
 | at' a n =>
  repeat' (first
   | apply qr
   | apply qe
   | apply qa
   | apply qn
   | apply qf
   | (apply qg; exact rfl; first | (apply zd; (first | assumption | omega)) | (apply zf; (first | assumption | omega)) | (apply ze; (first | exact rfl | assumption)) | (apply zg; (first | exact rfl | assumption)) | (apply cd_n <;> intro h) | (apply cd_t; (first | exact rfl | assumption)) | (apply cd_f; (first | exact rfl | assumption)) | (apply cd_d <;> intro h) | (apply cd_s <;> intro h))
   | (apply ku; exact rfl; exact rfl)
   | apply q9
   | (apply qi; exact Tryz.call45; exact qjf _ _ _ he hB hl))
  exact qs rfl (ju rfl) ⟨rfl, _, rfl⟩
end Go.Proofs.YtefmcijohgpfhaaGreatDoor
set_option linter.unusedVariables false
namespace Go.Av
open Go Go.RowKit
theorem qq9 {P : Program} {B0 : Nat} {w0 : World} {G : Gh} {st : List AObj} {w : World} (hA : jg B0 w0 G st w) {tt u ty T : TypeId} {du : TypeDesc} (htt : P.underlying tt = some (.slice T)) (hu : P.underlying u = some du) (hd : qdx du)
  {sz bytes : Nat} (hT : qax P T sz bytes) {t n m : Nat} (ht : st[t]? = some (.tip n sz T)) {xs ys : List AV} {x : Value} (hn : xs.length = n) (hm : ys.length = m)
  {news : List Value} (hx : Src P w x m sz news) (hys : ∀ y ∈ ys, y.cells.length = sz) (hrel : ∀ (i : Nat) (a : AV) (b : Value), (flat ys)[i]? = some a → news[i]? = some b → Rel G a b)
  (h63 : n + m ≤ maxLen) (base : Option Addr) (c : Nat) (olds : List Value) (ho : (Builtin.firstCells sz n (.slice base n c)).run P w.drew = .ok olds.toArray w.drew) (hc : c < n + m) (hol : olds.length = n * sz) (hfx : (flat xs).length = n * sz) (hwx : ∀ x ∈ xs, x.cells.length = sz)
  (hrx : ∀ (j : Nat) (a : AV) (b : Value), (flat xs)[j]? = some a → olds[j]? = some b → Rel G a b) (hfit : Builtin.nextslicecap (n + m) c * bytes ≤ 281474976710656) (hm0 : m ≠ 0) :
  ∃ v' w' G', (Builtin.append_ #[tt, u] ty #[.slice base n c, x]).run P w = .ok v' w' ∧ G.le G' ∧ jg B0 w0 G' (st.set t (.tip (n + m) sz T)) w' ∧ Rel G' (.sl sz (xs ++ ys) (some t)) v' := by
 obtain ⟨i, z, hi, hz, rfl, rfl, hzs⟩ := hT.ex
 obtain ⟨hraw, hver, htip⟩ := hA.ob t _ ht
 have htn : t < G.n := by rw [hA.n]; exact lt_of_getElem? ht
 have hlt : G.n = st.length := hA.n
 have hk := hA.kill t
 have hkt : (st.set t .dead)[t]? = some .dead := qej ht
 have hother : ∀ o x, (st.set t .dead)[o]? = some x → x.live → o ≠ t ∧ st[o]? = some x := fun o x hx hl => by
  rcases getElem?_set' _ _ _ _ _ hx with ⟨_, e⟩ | ⟨h1, h2⟩
  ·subst e; exact hl.elim
  ·exact ⟨h1, h2⟩
 have hset : (st.set t AObj.dead).set t (.tip (n + m) i.size T) = st.set t (.tip (n + m) i.size T) := by rw [List.set_set]
 have hself : st.set t (.tip n i.size T) = st := by
  apply List.ext_getElem?
  intro k
  by_cases e : t = k
  ·subst e; rw [List.getElem?_set_self (lt_of_getElem? ht)]; exact ht.symm
  ·rw [List.getElem?_set_ne e]
 have hrun := qd3 (ty := ty) htt hu hd hi hz hx base n c olds ho hc (by simp only [maxLen] at h63; omega) hfit
 have hge := grownCap_ge w (n + m) c T
 have hle := grownCap_le_maxLen w (n + m) c T h63
 generalize grownCap w (n + m) c T = cap at hrun hge hle
 have hsz : (olds.toArray ++ news.toArray ++ Builtin.zeroCells z.cells (cap - (n + m))).size = cap * i.size := by
  simp only [Array.size_append, List.size_toArray, size_zeroCells, hzs, hol, hx.count, ← Nat.add_mul]
  congr 1
  omega
 generalize hcv : olds.toArray ++ news.toArray ++ Builtin.zeroCells z.cells (cap - (n + m)) = c' at hrun hsz
 have hdrew : Below w.heap.size w w.drew := ⟨rfl, rfl, rfl, Nat.le_refl _, fun _ _ => rfl⟩
 have hA1 := hk.fresh hdrew
 have hpre : ∀ (j : Nat) (y : Value), (olds ++ news)[j]? = some y → c'[j]? = some y := fun j y hy => by
  have hj := lt_of_getElem? hy
  rw [← hcv, Array.getElem?_append_left (by simp at hj ⊢; omega), List.append_toArray]
  simpa using hy
 obtain ⟨hle1, hA2⟩ := hA1.newPub T c' (0, 0) (olds ++ news) hpre
 have hnp : G.pub w.heap.size = none := by
  cases hp : G.pub w.heap.size with
  | none => rfl
  | some vs => exact absurd (hA.pub_lt hp) (Nat.lt_irrefl _)
 obtain ⟨hle2, hA3⟩ := hA2.setTip (n' := n + m) (vs := olds ++ news) (k := w.heap.size) (cap := cap * i.size) (sz := i.size) (T := T) hkt (by simpa [Gh.publish] using hraw) (by simpa [Gh.publish] using hver) (by omega) (xg w.drew _) (by simp [Gh.publish]) (by simp [hol, hx.count, Nat.add_mul]) hsz hA.hB (fun o x hx hl => by
  obtain ⟨_, hx'⟩ := hother o x hx hl
  exact Nat.ne_of_lt ((hA.ob o x hx').lt hl))
 rw [hset] at hA3
 refine ⟨_, _, _, hrun, hle1.trans hle2, hA3, ?_⟩
 have hmono : ∀ {a b}, Rel G a b → Rel ((G.publish w.drew.heap.size (olds ++ news)).setOb t ⟨n + m, w.heap.size, cap * i.size, false⟩) a b := fun h => (h.mono hle1).mono hle2
 refine qkv (n := n) (m := m) (cap := cap) (k := w.heap.size) (vs := olds) (news := news) (by simp [Gh.setOb]) (by simp [Gh.setOb]) (by simp [Gh.setOb]) hle hge (by simpa [Gh.setOb, Gh.publish] using htn) (by omega) hn hm (by simp [Gh.setOb, Gh.publish]) (fun y hy => ?_) hol hx.count hfx (fun j a b h1 h2 => hmono (hrx j a b h1 h2)) (fun j a b h1 h2 => hmono (hrel j a b h1 h2))
 rcases List.mem_append.1 hy with h | h
 ·exact hwx y h
 ·exact hys y h
def TipO (b : Nat) (st : List AObj) (sz : Nat) (T : TypeId) (xs : List AV) (c : AV) : Prop := TipC b st sz T xs c ∨ (xs = [] ∧ ∃ o v f, c = .os o v f 0 0)
theorem qd2 (b : Nat) (st : List AObj) (sz : Nat) (T : TypeId) : TipO b st sz T [] jm := .inl (qa5 ..)
theorem j8 (b : Nat) (st : List AObj) (sz : Nat) (T : TypeId) (o v f : Nat) : TipO b st sz T [] (.os o v f 0 0) := .inr ⟨rfl, _, _, _, rfl⟩
theorem qvy {G : Gh} {o v f : Nat} {sz : Nat} {x : Value} (h : Rel G (.os o v f 0 0) x) : Rel G (.sl sz [] none) x := by
 cases h with
 | os _ _ _ _ b _ hn hv h => exact .sl0 sz none _ _ (by simp)
section
variable {E : Env} {rd : Option Nat} {N : Nat} {ops : Array Oper} {K : AS → Prop} {s : AS} {rest : List Oper} {d : Option Tmp} {T : TypeId} {p : String} {af : Array Edge}
theorem ql {x y : Operand} {t u T' : TypeId} {sz bytes b : Nat} {xs ys : List AV} {tip : Option Nat} {c : AV} {st : List AObj} (hst : s.st = st) (hx : qz N s x = c) (hy : qz N s y = .sl sz ys tip)
  (ht : E.P.underlying t = some (.slice T')) (hu : E.P.underlying u = some (.slice T')) (hT : qax E.P T' sz bytes) (hc : TipO b st sz T' xs c) (hb : b ≤ st.length) (hone : wg (flat ys) = true) (h63 : xs.length + ys.length ≤ maxLen) (hby : (xs.length + ys.length) * bytes ≤ 140737488355328)
  (h : ∀ c' st' t1, TipO b st' sz T' (xs ++ ys) c' → Fr st st' t1 → b ≤ t1 → (c = .sl sz xs (some t1) ∨ st.length ≤ t1) → AOps E rd N ops rest K (AS.put ⟨s.t, st', s.df⟩ d c')) : AOps E rd N ops (⟨d, .call ⟨.builtin .append, #[x, y], #[t, u]⟩, T, p, af, none⟩ :: rest) K s := by
 rcases hc with hc | ⟨hxs, o, ver, f, hco⟩
 ·refine zq hst hx hc hb hy ht hu hT hone h63 hby fun t1 st' g1 g2 g3 g4 => h _ st' t1 (.inl (.inr ⟨t1, rfl, g1, g2⟩)) g3 g2 g4
 ·subst hst
  subst hxs
  refine jk rfl (ji nofun fun B0 w0 G a w _ hI => ?_)
  have he := hI.eval_of (hx.trans hco)
  obtain ⟨news, k1, k2, k3⟩ := qc2 (P := E.P) hI.agree (hI.eval_of hy) (by simpa [wg] using hone)
  have hex := hT.ex
  obtain ⟨i, z, hi, hz, hsz, hbt, hzs⟩ := hex
  generalize hv : a.eval x = v at he
  cases he with
  | os _ _ _ _ blk _ hn hvv hbb =>
   by_cases hm0 : ys.length = 0
   ·have hy0 : ys = [] := List.eq_nil_of_length_eq_zero hm0
    subst hy0
    have hk1' : Src E.P w (a.eval y) 0 i.size [] := by
     have : news = [] := List.eq_nil_of_length_eq_zero (by simpa using k1.count)
     rw [hsz]
     rw [this] at k1
     exact k1
    refine ⟨_, w, G, _, s.st, ?_, .refl G, hI.agree, .os o ver f 0 blk 0 hn hvv hbb, h _ s.st s.st.length (.inr ⟨rfl, o, ver, f, rfl⟩) ⟨Nat.le_refl _, fun _ _ _ => rfl⟩ hb (.inr (Nat.le_refl _))⟩
    have := qb7 (ty := T) ht hu (.inr ⟨_, rfl⟩) hi hk1' (some ⟨blk, f, none⟩) 0 0 (Nat.le_refl _)
    generalize a.eval = ρ at hv this
    simp [execOp, resolve, invoke, builtin, hv, this]
   ·have hle := G.le_new 0 0 0 false
    have hA := hI.agree.newTip sz T'
    have hz63 : 0 + ys.length ≤ maxLen := by simpa using h63
    obtain ⟨v', w', G', e1, e2, e3, e4⟩ := qq9 (ty := T) hA ht hu (.inr ⟨_, rfl⟩) hT (t := s.st.length) (n := 0) (xs := []) (by simp) rfl rfl k1 k2 (fun i a b h1 h2 => (k3 i a b h1 h2).mono hle) hz63 (some ⟨blk, f, none⟩) 0 []
     (run_firstCells_some w.drew sz 0 ⟨blk, f, none⟩ 0 0 [] (by simp) (by simp)) (by omega) (by simp) (by simp [flat]) (by simp) (by simp [flat]) (by rw [Nat.zero_add, nextslicecap_zero (by omega)]; have := hby; simp at this; omega) hm0
    refine ⟨v', w', G', _, _, ?_, hle.trans e2, e3, e4, h _ _ s.st.length (.inl (.inr ⟨s.st.length, rfl, ?_, hb⟩)) ⟨by simp, fun k hk hlt => ?_⟩ hb (.inr (Nat.le_refl _))⟩
    ·generalize a.eval = ρ at e1 hv
     simp [execOp, resolve, invoke, builtin, hv, e1]
    ·simp
    ·rw [List.getElem?_set_ne (Ne.symm hk), List.getElem?_append_left hlt]
end
theorem qy {α : Type} {g : α → AV} {l : List α} (h : ∀ a, wg (g a).cells = true) : wg (flat (l.map g)) = true := by
 induction l with
 | nil => rfl
 | cons a r ih =>
  have h1 := h a
  unfold wg flat at *
  rw [List.map_cons, List.flatMap_cons, List.all_append, h1, ih]
  rfl
theorem je {b : Nat} {st : List AObj} {sz : Nat} {T : TypeId} {xs : List AV} {c : AV} (h : TipO b st sz T xs c) : ∀ G v, Rel G c v → Rel G (.sl sz xs none) v := by
 rcases h with (⟨rfl, rfl⟩ | ⟨t, rfl, _⟩) | ⟨rfl, o, v, f, rfl⟩
 ·exact fun G v h => qex h
 ·exact fun G v h => qev h
 ·exact fun G v h => qvy h
end Go.Av
set_option maxRecDepth 100000
set_option linter.unusedVariables false
namespace Go.Av
open Go Go.RowKit
theorem qbn {b : Nat} {st l : List AObj} {sz : Nat} {T : TypeId} {xs : List AV} {c : AV} (h : TipO b st sz T xs c) : TipO b (st ++ l) sz T xs c := by
 rcases h with h | h
 ·exact .inl (qd9 h)
 ·exact .inr h
theorem qkn {b : Nat} {st st' : List AObj} {sz : Nat} {T : TypeId} {xs : List AV} {c : AV} (hs : ∀ (t m sz : Nat) (T : TypeId), st[t]? = some (AObj.tip m sz T) → st'[t]? = st[t]?) (h : TipO b st sz T xs c) : TipO b st' sz T xs c := by
 rcases h with (h | ⟨t, h1, h2, h3⟩) | h
 ·exact .inl (.inl h)
 ·exact .inl (.inr ⟨t, h1, (hs t _ _ _ h2).trans h2, h3⟩)
 ·exact .inr h
end Go.Av
namespace Go.Proofs.YtefmcijohgpfhaaGreatDoor
open Go Go.Av Go.RowKit Go.Proofs Go.Pl
theorem qvh {st l : List AObj} : st.length ≤ (st ++ l).length := by simp
theorem qc5 {b o : Nat} {st : List AObj} {sz : Nat} {T : TypeId} {xs : List AV} {c : AV} {x : AObj} (h : TipO b st sz T xs c) (hn : qb1 st[o]?) : TipO b (st.set o x) sz T xs c :=
 qkn (fun t m sz T ht => List.getElem?_set_ne (fun e => by subst e; exact hn _ _ _ ht)) h
structure OutI (st : List AObj) (S : List AObj) : Prop where
 low : ∀ j, j < st.length → S[j]? = st[j]?
 len : st.length ≤ S.length
theorem OutI.pre {st S l : List AObj} (h : OutI st S) : OutI st (S ++ l) := ⟨fun j hj => (List.getElem?_append_left (by have := h.len; omega)).trans (h.low j hj), by have := h.len; simp; omega⟩
theorem OutI.set {st S : List AObj} {o : Nat} {x : AObj} (h : OutI st S) (ho : st.length ≤ o) : OutI st (S.set o x) := ⟨fun j hj => (zv (by omega)).trans (h.low j hj), by have := h.len; simp; omega⟩
theorem OutI.fr {st S S' : List AObj} {t : Nat} (h : OutI st S) (hf : Fr S S' t) (ht : st.length ≤ t) : OutI st S' := ⟨fun j hj => (hf.same j (by omega) (by have := h.len; omega)).trans (h.low j hj), Nat.le_trans h.len hf.len⟩
theorem OutI.ext {st S : List AObj} (h : OutI st S) : ∃ ext, S = st ++ ext := qk3 h.low
theorem j5 {E : Env} {rd : Option Nat} {N : Nat} {ops : Array Oper} {K : AS → Prop} {s : AS} {rest : List Oper} {d : Option Tmp} {T : TypeId} {p : String} {af : Array Edge} {t e : TypeId} {len sz : Nat} {agg : Bool} {parts : Array (Nat × Operand)} {zs cs : List AV} {st : List AObj} (hst : s.st = st) (hu : E.P.underlying t = some (.slice e)) (ht : tyOf E.P e = some (sz, agg)) (hz : qhh E.P e len = some zs)
  (hf : qb5 (fun i => some (i * sz, sz)) zs (xb N s parts) = some cs) (hsz : Nat.ble (len * sz) 16777216 = true)
  (h : AOps E rd N ops rest K (AS.put ⟨s.t, st ++ [.cells 0 e cs], s.df⟩ d (.os st.length 0 0 len len))) : AOps E rd N ops (⟨d, .buildSlice t len parts, T, p, af, none⟩ :: rest) K s :=
 xd (loc := []) (by rw [hst]; simp) hu ht hz hf hsz h
theorem qcs (x : z8) : qjp (kc x) := fun y hy => by
 simp only [AV.cells, List.mem_cons, List.not_mem_nil, or_false] at hy
 rcases hy with rfl | rfl | rfl
 ·exact jn _
 ·exact jn _
 ·exact qbc _
theorem qct (b : List z8) : Pure (vu b) := qdz fun x hx => by
 obtain ⟨f, _, rfl⟩ := List.mem_map.1 hx
 exact qcs f
theorem xi {α β : Type} (g : α → β) (l : List α) (a : α) : (l ++ [a]).map g = l.map g ++ [g a] := by simp
end Go.Proofs.YtefmcijohgpfhaaGreatDoor
set_option maxRecDepth 100000
set_option linter.unusedVariables false
namespace Go.Proofs.YtefmcijohgpfhaaGreatDoor
open Go Go.Av Go.RowKit Go.Proofs Go.Pl
def tryB (k : Int) (l : qk) : Option Int := if wo k <+: l then (match Lib.atoiAll (l.drop (wo k).length) with
 | .ok n => some n
 | _ => none) else none
def begE (l : qk) : Option (Int × Int) := match tryB 1 l with
 | some n => some (1, n)
 | none => match tryB 2 l with
  | some n => some (2, n)
  | none => match tryB 3 l with
   | some n => some (3, n)
   | none => none
def begA : Option (Int × Int) → AV
 | some (k, n) => .tu [kc ⟨k, n, []⟩, Bv true]
 | none => .tu [kc ⟨0, 0, []⟩, Bv false]
theorem qss (x : Option (Int × Int)) : Pure (begA x) := by
 rcases x with _ | ⟨k, n⟩
 ·exact yl (qdd (qcs _)) (jn _)
 ·exact yl (qdd (qcs _)) (jn _)
theorem qay (k n : Int) : Weak (.ag [Iv k, Iv n, jm]) (kc ⟨k, n, []⟩) :=
 qqe rfl fun i x y hx hy => by
  match i with
  | 0 => simp at hx hy; subst hx; subst hy; exact kp _
  | 1 => simp at hx hy; subst hx; subst hy; exact kp _
  | 2 => simp at hx hy; subst hx; subst hy; exact vd 2
  | i + 3 => simp at hx
theorem qrc (l m : qk) (st : List AObj) (h : m <+: l) : zr E 76 [Sv l, Sv m] st fun r st' => r = .tu [Sv (l.drop m.length), Bv true] ∧ st' = st := by
 have := qfa l m st
 rw [qgv h, (x2 l m).2 h] at this
 exact this
theorem qq2 (l m d : qk) (st : List AObj) (h : m <+: l) (hd : l.drop m.length = d) : zr E 76 [Sv l, Sv m] st fun r st' => r = .tu [Sv d, Bv true] ∧ st' = st := by
 subst hd
 exact qrc l m st h
theorem qqw (l m : qk) (st : List AObj) (h : ¬ m <+: l) : zr E 76 [Sv l, Sv m] st fun r st' => r = .tu [Sv l, Bv false] ∧ st' = st := by
 have := qfa l m st
 have hf : Lib.hasPrefix l m = false := by
  cases hb : Lib.hasPrefix l m with
  | false => rfl
  | true => exact absurd ((x2 l m).1 hb) h
 have ht : Lib.trimPrefix l m = l := by
  unfold Lib.trimPrefix
  rw [if_neg (by simp [hf])]
 rw [ht, hf] at this
 exact this
theorem qvm {l : qk} {k : Nat} {n : Int} (h1 : 1 ≤ k) (h3 : k ≤ 3) (h : ∀ j : Nat, 1 ≤ j → j < k → tryB j l = none) (hk : tryB k l = some n) : begE l = some ((k : Int), n) := by
 have : k = 1 ∨ k = 2 ∨ k = 3 := by omega
 rcases this with rfl | rfl | rfl
 ·have hk1 : tryB 1 l = some n := hk
  simp [begE, hk1]
 ·have e1 : tryB 1 l = none := h 1 (by omega) (by omega)
  have hk1 : tryB 2 l = some n := hk
  simp [begE, e1, hk1]
 ·have e1 : tryB 1 l = none := h 1 (by omega) (by omega)
  have e2 : tryB 2 l = none := h 2 (by omega) (by omega)
  have hk1 : tryB 3 l = some n := hk
  simp [begE, e1, e2, hk1]
theorem qsc {l : qk} (h : ∀ j : Nat, 1 ≤ j → j < 4 → tryB j l = none) : begE l = none := by
 have e1 : tryB 1 l = none := h 1 (by omega) (by omega)
 have e2 : tryB 2 l = none := h 2 (by omega) (by omega)
 have e3 : tryB 3 l = none := h 3 (by omega) (by omega)
 simp [begE, e1, e2, e3]
theorem qsp {k : Nat} (h1 : 1 ≤ k) (h3 : k ≤ 3) : yw (k : Int) ≠ [] ∧ ([32] ++ yw (k : Int)) ++ [32] = wo (k : Int) ∧ (yw (k : Int)).length ≤ 10 := by
 have : k = 1 ∨ k = 2 ∨ k = 3 := by omega
 rcases this with rfl | rfl | rfl <;> decide
set_option maxHeartbeats 2000000 in
theorem qpy (l : qk) (st : List AObj) (hl : l.length < 1000000) : zr E 37 [Sv l] st fun r st' => r = begA (begE l) ∧ st' = st := by
 refine z4 (qss _) (zp Tryz.func37 rfl (Nat.le_of_ble_eq_true rfl) ?_)
 repeat' (first
  | apply qr
  | apply q7
  | apply qe
  | apply qa
  | apply qf
  | (apply jh; exact rfl; exact rfl))
 refine vy (fun (k : Nat) s => 1 ≤ k ∧ k ≤ 4 ∧ (∀ j : Nat, 1 ≤ j → j < k → tryB j l = none) ∧ StE [(0, Sv l), (2, .bx (st.length + 0) 0 0), (4, Iv k)] st [.cells 0 45 [Iv 0, Iv 0, jm]] s) (fun k => 4 - k) 1 ⟨by omega, by omega, fun j h1 h2 => by omega, we ⟨rfl, rfl, rfl, trivial⟩ rfl⟩ ?_
 rintro k _ ⟨hk1, hk4, hno, t, ext, rfl⟩
 by_cases h4 : k = 4
 ·subst h4
  have hw : yw ((4 : Nat) : Int) = [] := by decide
  rw [qsc hno]
  repeat' (first
   | apply qr
   | apply qe
   | apply qa
   | apply qn
   | apply qf
   | (apply kw; (iterate 3 exact rfl))
   | (apply qg; exact rfl; first | (apply zd; (first | assumption | omega)) | (apply zf; (first | assumption | omega)) | (apply ze; (first | exact rfl | assumption)) | (apply zg; (first | exact rfl | assumption)) | (apply cd_n <;> intro h) | (apply cd_t; (first | exact rfl | assumption)) | (apply cd_f; (first | exact rfl | assumption)) | (apply cd_d <;> intro h) | (apply cd_s <;> intro h))
   | (apply zm; (iterate 11 exact rfl))
   | (apply j6; (iterate 3 exact rfl))
   | apply jp
   | apply q9
   | (apply qi; exact Tryz.call75; exact qjt _ _))
  refine qs rfl (kq (wq rfl rfl rfl rfl rfl rfl) (vj (qay 0 0) (kp _))) ⟨rfl, kg _ _ _ _⟩
 ·obtain ⟨hw, hm, hwl⟩ := qsp hk1 (by omega)
  by_cases hp : wo (k : Int) <+: l
  ·have hp' : ([32] ++ yw (k : Int)) ++ [32] <+: l := by rw [hm]; exact hp
   obtain ⟨d, hd0⟩ : ∃ d, d = l.drop (wo (k : Int)).length := ⟨_, rfl⟩
   have hd : l.drop ((([32] : qk) ++ yw (k : Int)) ++ [32]).length = d := by rw [hm, hd0]
   have hdl : d.length < 1000000 := by rw [hd0, List.length_drop]; omega
   repeat' (first
    | apply qr
    | apply q7
    | apply qe
    | apply qa
    | apply qn
    | apply qf
    | (apply z1; exact rfl; exact rfl)
    | (apply kw; (iterate 3 exact rfl))
    | (apply qg; exact rfl; first | (apply zd; (first | assumption | omega)) | (apply zf; (first | assumption | omega)) | (apply ze; (first | exact rfl | assumption)) | (apply zg; (first | exact rfl | assumption)) | (apply cd_n <;> intro h) | (apply cd_t; (first | exact rfl | assumption)) | (apply cd_f; (first | exact rfl | assumption)) | (apply cd_d <;> intro h) | (apply cd_s <;> intro h))
    | (apply kl; exact rfl; exact rfl; (first | omega | (simp only [List.length_append, List.length_cons, List.length_nil]; omega) | (simp; omega)))
    | apply q8
    | (apply qi; exact Tryz.call75; exact qjt _ _)
    | (apply qi; exact Tryz.call76; exact qq2 _ _ _ _ hp' hd))
   refine xp Tryz.call77 ((qtj d _ (by omega)).mono ?_)
   rintro _ _ ⟨rfl, n, x, rfl, hx⟩
   rw [hd0] at hx
   rcases x with _ | ⟨t', y⟩
   ·simp only at hx
    have htr : tryB (k : Int) l = some n := by unfold tryB; rw [if_pos hp, hx]
    rw [qvm hk1 (by omega) hno htr]
    repeat' (first
     | apply qr
     | apply qe
     | apply qa
     | apply qn
     | apply qf
     | (apply z1; exact rfl; exact rfl)
     | (apply zh; (iterate 4 exact rfl))
     | (apply yg; (first | exact rfl | assumption))
     | (apply zk; exact rfl; first | (apply jx; (first | assumption | omega)) | (apply jw; (first | assumption | omega)) | (apply jy; (first | exact rfl | assumption)) | (apply jv; (first | exact rfl | assumption)) | (apply pk_t; (first | exact rfl | assumption)) | (apply pk_f; (first | exact rfl | assumption)))
     | (apply qg; exact rfl; first | (apply zd; (first | assumption | omega)) | (apply zf; (first | assumption | omega)) | (apply ze; (first | exact rfl | assumption)) | (apply zg; (first | exact rfl | assumption)) | (apply cd_n <;> intro h) | (apply cd_t; (first | exact rfl | assumption)) | (apply cd_f; (first | exact rfl | assumption)) | (apply cd_d <;> intro h) | (apply cd_s <;> intro h))
     | (apply xz; exact rfl; exact rfl)
     | (apply zm; (iterate 11 exact rfl))
     | (apply j6; (iterate 3 exact rfl))
     | apply q9)
    refine qs rfl (kq (wq rfl rfl rfl rfl rfl rfl) (vj (qay k n) (kp _))) ⟨rfl, kg _ _ _ _⟩
   ·simp only at hx
    have htr : tryB (k : Int) l = none := by
     unfold tryB
     rw [if_pos hp]
     split
     ·rename_i v hv; exact absurd hv (hx v)
     ·rfl
    repeat' (first
     | apply qr
     | apply qe
     | apply qa
     | apply qn
     | apply qf
     | (apply z1; exact rfl; exact rfl)
     | (apply zh; (iterate 4 exact rfl))
     | (apply yg; (first | exact rfl | assumption))
     | (apply zk; exact rfl; first | (apply jx; (first | assumption | omega)) | (apply jw; (first | assumption | omega)) | (apply jy; (first | exact rfl | assumption)) | (apply jv; (first | exact rfl | assumption)) | (apply pk_t; (first | exact rfl | assumption)) | (apply pk_f; (first | exact rfl | assumption)))
     | (apply qg; exact rfl; first | (apply zd; (first | assumption | omega)) | (apply zf; (first | assumption | omega)) | (apply ze; (first | exact rfl | assumption)) | (apply zg; (first | exact rfl | assumption)) | (apply cd_n <;> intro h) | (apply cd_t; (first | exact rfl | assumption)) | (apply cd_f; (first | exact rfl | assumption)) | (apply cd_d <;> intro h) | (apply cd_s <;> intro h))
     | (apply jj; exact rfl; exact rfl; exact z2 (by omega) (by omega))
     | (apply xa; exact rfl; exact rfl)
     | apply q8)
    refine ⟨k + 1, ⟨by omega, by omega, fun j h1 h2 => ?_, vm ⟨rfl, rfl, rfl, trivial⟩ rfl⟩, by omega⟩
    by_cases hjk : j = k
    ·subst hjk; exact htr
    ·exact hno j h1 (by omega)
  ·have hp' : ¬ ([32] ++ yw (k : Int)) ++ [32] <+: l := by rw [hm]; exact hp
   have htr : tryB (k : Int) l = none := by unfold tryB; rw [if_neg hp]
   repeat' (first
    | apply qr
    | apply q7
    | apply qe
    | apply qa
    | apply qn
    | apply qf
    | (apply z1; exact rfl; exact rfl)
    | (apply kw; (iterate 3 exact rfl))
    | (apply qg; exact rfl; first | (apply zd; (first | assumption | omega)) | (apply zf; (first | assumption | omega)) | (apply ze; (first | exact rfl | assumption)) | (apply zg; (first | exact rfl | assumption)) | (apply cd_n <;> intro h) | (apply cd_t; (first | exact rfl | assumption)) | (apply cd_f; (first | exact rfl | assumption)) | (apply cd_d <;> intro h) | (apply cd_s <;> intro h))
    | (apply kl; exact rfl; exact rfl; (first | omega | (simp only [List.length_append, List.length_cons, List.length_nil]; omega) | (simp; omega)))
    | apply q8
    | (apply qi; exact Tryz.call75; exact qjt _ _)
    | (apply qi; exact Tryz.call76; exact qqw _ _ _ hp'))
   refine xp Tryz.call77 ((qtj l _ (by omega)).mono ?_)
   rintro _ _ ⟨rfl, n, x, rfl, hx⟩
   rcases x with _ | ⟨t', y⟩
   all_goals
    repeat' (first
     | apply qr
     | apply qe
     | apply qa
     | apply qn
     | apply qf
     | (apply z1; exact rfl; exact rfl)
     | (apply zh; (iterate 4 exact rfl))
     | (apply qaf; (first | exact rfl | assumption))
     | (apply zk; exact rfl; first | (apply jx; (first | assumption | omega)) | (apply jw; (first | assumption | omega)) | (apply jy; (first | exact rfl | assumption)) | (apply jv; (first | exact rfl | assumption)) | (apply pk_t; (first | exact rfl | assumption)) | (apply pk_f; (first | exact rfl | assumption)))
     | (apply qg; exact rfl; first | (apply zd; (first | assumption | omega)) | (apply zf; (first | assumption | omega)) | (apply ze; (first | exact rfl | assumption)) | (apply zg; (first | exact rfl | assumption)) | (apply cd_n <;> intro h) | (apply cd_t; (first | exact rfl | assumption)) | (apply cd_f; (first | exact rfl | assumption)) | (apply cd_d <;> intro h) | (apply cd_s <;> intro h))
     | (apply jj; exact rfl; exact rfl; exact z2 (by omega) (by omega))
     | apply q8)
    refine ⟨k + 1, ⟨by omega, by omega, fun j h1 h2 => ?_, vm ⟨rfl, rfl, rfl, trivial⟩ rfl⟩, by omega⟩
    by_cases hjk : j = k
    ·subst hjk; exact htr
    ·exact hno j h1 (by omega)
def yt (its : List wl) : List (List Fld) := (its.filter fun x => decide (x.kind = 3)).map wl.fields
@[reducible] def quz (ls : List (List Fld)) : AV := .sl 1 (ls.map jd) none
theorem qqh (ls : List (List Fld)) : Pure (quz ls) := qdz fun x hx => by
 obtain ⟨f, _, rfl⟩ := List.mem_map.1 hx
 intro y hy
 simp only [AV.cells, List.mem_cons, List.not_mem_nil, or_false] at hy
 subst hy
 exact qbc _
theorem qpe (l : List wl) (x : wl) (h : x.kind = 3) : yt (l ++ [x]) = yt l ++ [x.fields] := by simp [yt, h]
theorem qo7 (l : List wl) (x : wl) (h : ¬ x.kind = 3) : yt (l ++ [x]) = yt l := by simp [yt, h]
theorem qu8 {b t1 : Nat} {st st' : List AObj} {sz : Nat} {T : TypeId} {xs : List AV} {c c0 : AV} {sz0 : Nat} {xs0 : List AV} (hf : Fr st st' t1) (hid : c0 = .sl sz0 xs0 (some t1) ∨ st.length ≤ t1) (h0 : ∀ t, c0 ≠ .sl sz0 xs0 (some t)) (h : TipO b st sz T xs c) : TipO b st' sz T xs c :=
 qkn (fun t m sz T ht => hf.same t (fun e => by
  subst e
  rcases hid with hid | hid
  ·exact h0 _ hid
  ·have := lt_of_getElem? ht; omega) (lt_of_getElem? ht)) h
theorem qtz {b t1 : Nat} {st st' : List AObj} {sz : Nat} {T : TypeId} {xs : List AV} {c : AV} {sz0 : Nat} {xs0 : List AV} {o v f l k : Nat} (hf : Fr st st' t1) (hid : AV.os o v f l k = .sl sz0 xs0 (some t1) ∨ st.length ≤ t1) (h : TipO b st sz T xs c) : TipO b st' sz T xs c :=
 qu8 hf hid (by simp) h
set_option maxHeartbeats 2000000 in
theorem qsr (its : List wl) (st : List AObj) (hl : its.length < 1000000) (hf : ∀ x ∈ its, x.fields.length < 1000000) : zr E 79 [qfo its] st fun r st' => r = quz (yt its) ∧ st' = st := by
 refine z4 (qqh _) (zp Tryz.func79 rfl (Nat.le_of_ble_eq_true rfl) ?_)
 have hml : (its.map zu).length = its.length := by simp
 rw [List.append_nil]
 repeat' (first
  | apply qr
  | apply q7
  | apply qe
  | apply qa
  | apply qn
  | apply qf
  | (apply zo; (iterate 4 exact rfl)))
 refine vz its (fun pre s => ∃ c S, OutI st S ∧ TipO st.length S 1 43 ((yt pre).map jd) c ∧ StA [(3, c), (6, qfo its), (7, Iv its.length), (8, Iv pre.length)] S [] s) ⟨_, st, ⟨fun _ _ => rfl, Nat.le_refl _⟩, qd2 .., vl ⟨rfl, rfl, congrArg (fun n : Nat => Iv (n : Int)) hml, rfl, trivial⟩⟩ ?_ ?_
 ·rintro _ ⟨c, S, hO, hT, t, rfl⟩
  repeat' (first
   | apply qr
   | apply qe
   | apply qa
   | apply qn
   | apply qf
   | (apply qt; (iterate 3 exact rfl))
   | (apply qg; exact rfl; first | (apply zd; (first | assumption | omega)) | (apply zf; (first | assumption | omega)) | (apply ze; (first | exact rfl | assumption)) | (apply zg; (first | exact rfl | assumption)) | (apply cd_n <;> intro h) | (apply cd_t; (first | exact rfl | assumption)) | (apply cd_f; (first | exact rfl | assumption)) | (apply cd_d <;> intro h) | (apply cd_s <;> intro h))
   | apply jp
   | apply q9)
  exact qs rfl (kq (zt rfl) (je hT)) ⟨rfl, hO.ext⟩
 ·rintro pre x rest _ hr ⟨c, S, hO, hT, t, rfl⟩
  have hlen : its.length = pre.length + (rest.length + 1) := by rw [hr]; simp
  have hget : (its.map zu)[pre.length]? = some (zu x) := by rw [hr]; simp
  have hxf := hf x (by rw [hr]; simp)
  have hpl : (yt pre).length ≤ pre.length := by unfold yt; rw [List.length_map]; exact List.length_filter_le _ _
  have hSl := hO.len
  have hO1 : OutI st ((S ++ [AObj.cells 0 152 [Iv 0, Sv [], jm]]).set S.length (.cells 0 152 (zu x).cells)) := hO.pre.set hSl
  have hT1 : TipO st.length ((S ++ [AObj.cells 0 152 [Iv 0, Sv [], jm]]).set S.length (.cells 0 152 (zu x).cells)) 1 43 ((yt pre).map jd) c := qc5 (qbn hT) (qw jl)
  have hob : ((S ++ [AObj.cells 0 152 [Iv 0, Sv [], jm]]).set S.length (.cells 0 152 (zu x).cells))[S.length]? = some (.cells 0 152 (zu x).cells) := zn jl
  by_cases h3 : x.kind = 3
  ·skip
   repeat' (first
    | (apply j5 (st := (S ++ [AObj.cells 0 152 [Iv 0, Sv [], jm]]).set S.length (.cells 0 152 (zu x).cells)); (iterate 6 exact rfl))
    | (apply zi 19 rfl (je g1); apply qj; (iterate 9 exact rfl))
    | apply qr
    | apply q7
    | apply qe
    | apply qa
    | apply qn
    | apply qf
    | (apply qt; (iterate 3 exact rfl))
    | (apply qg; exact rfl; first | (apply zd; (first | assumption | omega)) | (apply zf; (first | assumption | omega)) | (apply ze; (first | exact rfl | assumption)) | (apply zg; (first | exact rfl | assumption)) | (apply cd_n <;> intro h) | (apply cd_t; (first | exact rfl | assumption)) | (apply cd_f; (first | exact rfl | assumption)) | (apply cd_d <;> intro h) | (apply cd_s <;> intro h))
    | (apply jj; exact rfl; exact rfl; exact z2 (by omega) (by omega))
    | (apply za; (iterate 3 exact rfl))
    | (apply qv; (iterate 3 exact rfl))
    | apply q8
    | (apply qb; exact rfl; exact hob; exact rfl; exact rfl)
    | (apply qb; exact rfl; exact z6 hob; exact rfl; exact rfl)
    | (apply x7 (st := S); exact rfl; exact rfl)
    | (apply qm; exact rfl; exact rfl; (focus first | assumption | (repeat' (first | assumption | exact jl | exact zw rfl | apply zn | apply qh | omega | apply z6))); (iterate 6 exact rfl))
    | (apply zy (n := pre.length); (iterate 5 exact rfl); exact hget)
    | (apply ql (b := st.length) (xs := []) (ys := x.fields.map fldA) (bytes := 32);  (iterate 5 exact rfl); exact ⟨⟨_, _, rfl, rfl, rfl, rfl, rfl⟩⟩; exact j8 _ _ _ _ _ _ _; (exact Nat.le_trans hO1.len qvh); (first | exact rfl | exact qy fun _ => rfl); ((simp [maxLen]; omega)); ((simp; omega)); intro c1 S1 t1 g1 g2 g3 g4)
    | (apply ql (b := st.length) (xs := (yt pre).map jd) (ys := [jd x.fields]) (bytes := 24);  (iterate 5 exact rfl); exact ⟨⟨_, _, rfl, rfl, rfl, rfl, rfl⟩⟩; exact qtz g2 g4 (qbn hT1); (exact (hO1.pre.fr g2 g3).len); (first | exact rfl | exact qy fun _ => rfl); ((simp [maxLen]; omega)); ((simp; omega)); intro c2 S2 t2 k1 k2 k3 k4))
   exact ⟨c2, S2, (hO1.pre.fr g2 g3).fr k2 k3, by rw [qpe _ _ h3, xi]; exact k1, vl ⟨rfl, rfl, rfl, xh pre x, trivial⟩⟩
  ·skip
   repeat' (first
    | apply qr
    | apply q7
    | apply qe
    | apply qa
    | apply qn
    | (apply qt; (iterate 3 exact rfl))
    | (apply qg; exact rfl; first | (apply zd; (first | assumption | omega)) | (apply zf; (first | assumption | omega)) | (apply ze; (first | exact rfl | assumption)) | (apply zg; (first | exact rfl | assumption)) | (apply cd_n <;> intro h) | (apply cd_t; (first | exact rfl | assumption)) | (apply cd_f; (first | exact rfl | assumption)) | (apply cd_d <;> intro h) | (apply cd_s <;> intro h))
    | (apply jj; exact rfl; exact rfl; exact z2 (by omega) (by omega))
    | (apply za; (iterate 3 exact rfl))
    | (apply qv; (iterate 3 exact rfl))
    | apply q8
    | (apply qb; exact rfl; exact hob; exact rfl; exact rfl)
    | (apply x7 (st := S); exact rfl; exact rfl)
    | (apply qm; exact rfl; exact rfl; (focus first | assumption | (repeat' (first | assumption | exact jl | exact zw rfl | apply zn | apply qh | omega | apply z6))); (iterate 6 exact rfl))
    | (apply zy (n := pre.length); (iterate 5 exact rfl); exact hget))
   exact ⟨c, _, hO1, by rw [qo7 _ _ h3]; exact hT1, vl ⟨rfl, rfl, rfl, xh pre x, trivial⟩⟩
end Go.Proofs.YtefmcijohgpfhaaGreatDoor
set_option maxRecDepth 100000
set_option linter.unusedVariables false
namespace Go.Pl
open Go Go.Proofs Go.Proofs.YtefmcijohgpfhaaGreatDoor
def GF (fs : List Fld) : Prop := fs.length ≤ 40 ∧ ∀ f ∈ fs, kz f
structure PI (p : PSt) : Prop where
 items : ∀ x ∈ p.items, GF x.fields ∧ (x.kind = 3 ↔ x.fields ≠ [])
 fields : GF p.fields
 full : p.lines ≠ [] → p.full = false → p.fields.length < 40
theorem qe8 {ls : List qk} (h : (jq ls).2 = 0) : kz (jq ls).1 := by
 unfold jq at h ⊢
 split at h
 ·split at h
  ·simp at h
  ·rename_i h1 h2
   rw [if_pos h1, if_neg h2]
   exact ⟨(qda.1 h1.2.1).2.2, Nat.le_of_not_lt h2⟩
 ·simp at h
theorem pi0 : PI p0 := ⟨by simp [p0], ⟨by simp [p0], by simp [p0]⟩, by simp [p0]⟩
theorem PI.flush {p : PSt} (h : PI p) : PI (vn p).2 := by
 unfold vn
 split
 ·exact h
 ·rename_i hl
  split
  ·exact h
  ·rename_i hu
   split
   ·exact h
   ·rename_i hf
    have hlt := h.full hl (by simpa using hf)
    refine ⟨h.items, ⟨by simp; omega, fun f hm => ?_⟩, by simp⟩
    rcases List.mem_append.1 hm with hm | hm
    ·exact h.fields.2 f hm
    ·simp at hm; subst hm; exact qe8 (by simpa using hu)
theorem PI.close {p : PSt} (h : PI p) : PI (w6 p) := by
 unfold w6
 split
 ·exact ⟨h.items, ⟨by simp, by simp⟩, fun h1 h2 => by simp⟩
 ·refine ⟨fun x hx => ?_, ⟨by simp, by simp⟩, fun h1 h2 => by simp⟩
  rcases List.mem_append.1 hx with hx | hx
  ·exact h.items x hx
  ·simp at hx
   subst hx
   refine ⟨h.fields, ?_⟩
   simp only
   split
   ·rename_i h0; simp [h0]
   ·rename_i h0; simp [h0]
theorem PI.end' {p : PSt} (h : PI p) : PI (endP p).2 := by
 unfold endP
 split
 ·exact h
 ·exact h.flush.close
theorem PI.lines' {p : PSt} (h : PI p) (hl : p.lines ≠ []) (text : qk) : PI { p with lines := p.lines ++ [text] } := ⟨h.items, h.fields, fun _ hf => h.full hl hf⟩
theorem PI.begin' {p : PSt} (h : PI p) (no : Int) (text : qk) : PI (wj p no text) := by
 refine ⟨h.items, h.fields, fun _ hf => ?_⟩
 have := h.fields.1
 simp only [wj, decide_eq_false_iff_not, not_or] at hf ⊢
 omega
theorem PI.ahead {p : PSt} (h : PI p) (no : Int) (text : qk) (ended : Bool) (kind : Int) : PI (vb p no text ended kind).2 := by
 unfold vb
 split
 ·split
  ·exact h
  ·rename_i hl
   split
   ·exact h.lines' hl text
   ·exact (h.lines' hl text).flush
 ·split
  ·exact h.end'
  ·exact h.flush
theorem PI.take {p : PSt} (h : PI p) (no : Int) (text : qk) (ended : Bool) : PI (xn p no text ended).2 := by
 have ha := h.ahead no text ended (jf text)
 unfold xn
 split
 ·exact h
 ·split
  ·exact h
  ·split
   ·refine ⟨fun x hx => ?_, ha.fields, ha.full⟩
    rcases List.mem_append.1 hx with hx | hx
    ·exact ha.items x hx
    ·simp at hx; subst hx; exact ⟨⟨by simp, by simp⟩, by simp⟩
   ·split
    ·have hb := ha.begin' no text
     exact ⟨hb.items, hb.fields, hb.full⟩
    ·exact ⟨ha.items, ha.fields, ha.full⟩
theorem PI.run : ∀ (ls : List (qk × Bool)) (k : Nat) (p : PSt), PI p → PI (runL k ls p).2
 | [], k, p, h => h.end'
 | (t, e) :: r, k, p, h => by
  unfold runL
  split
  ·exact h
  ·exact PI.run r (k + 1) _ (h.take k t e)
theorem qim (text : qk) : ∀ x ∈ (vw text).2, GF x.fields ∧ (x.kind = 3 ↔ x.fields ≠ []) := by
 unfold vw
 split
 ·simp
 ·exact (PI.run _ 0 _ pi0).items
theorem qno (p : PSt) : (w6 p).items.length ≤ p.items.length + 1 := by
 unfold w6
 split <;> simp
theorem qd1 (p : PSt) : (vn p).2.items = p.items := by
 unfold vn
 split
 ·rfl
 ·split
  ·rfl
  ·split <;> rfl
theorem qj1 (p : PSt) : (endP p).2.items.length ≤ p.items.length + 1 := by
 unfold endP
 split
 ·simp
 ·have := qno (vn p).2
  rw [qd1] at this
  exact this
theorem qmu (p : PSt) (no : Int) (text : qk) (ended : Bool) (kind : Int) : (vb p no text ended kind).2.items.length ≤ p.items.length + 1 := by
 unfold vb
 split
 ·split
  ·simp
  ·split
   ·simp
   ·rw [qd1]; simp
 ·split
  ·exact qj1 p
  ·rw [qd1]; simp
theorem qpi (p : PSt) (no : Int) (text : qk) (ended : Bool) : (xn p no text ended).2.items.length ≤ p.items.length + 2 := by
 have ha := qmu p no text ended (jf text)
 unfold xn
 split
 ·simp
 ·split
  ·simp
  ·split
   ·simp; omega
   ·split
    ·simp [wj]; omega
    ·simp; omega
theorem qjr : ∀ (ls : List (qk × Bool)) (k : Nat) (p : PSt), (runL k ls p).2.items.length ≤ p.items.length + 2 * ls.length + 1
 | [], k, p => by have := qj1 p; simp [runL]; omega
 | (t, e) :: r, k, p => by
  unfold runL
  split
  ·simp; omega
  ·have h1 := qjr r (k + 1) (xn p k t e).2
   have h2 := qpi p k t e
   simp only [List.length_cons]
   omega
theorem qr9 (text : qk) : (vw text).2.length ≤ 2 * text.length + 1 := by
 unfold vw
 split
 ·simp
 ·have h1 := qjr (kh text) 0 p0
  have h2 := (qbx _ text (Nat.le_refl _)).2
  have h3 : p0.items.length = 0 := rfl
  simp only
  omega
theorem qqo (by' l : qk) : (v7 by' l).1.length ≤ l.length := by
 unfold v7
 split
 ·have h := (qbx _ l (Nat.le_refl _)).1
  have key : ∀ (ls : List (qk × Bool)), (ls.flatMap fun x => x.1.drop by'.length ++ wd x.2).length ≤ lsum ls := by
   intro ls
   induction ls with
   | nil => simp [lsum]
   | cons x r ih =>
    simp only [lsum, List.flatMap_cons, List.length_append, List.map_cons, List.sum_cons, List.length_drop] at ih ⊢
    omega
  have := key (kh l)
  simp only
  omega
 ·simp
end Go.Pl
set_option maxRecDepth 100000
set_option linter.unusedVariables false
namespace Go.Proofs.YtefmcijohgpfhaaGreatDoor
open Go Go.Av Go.RowKit Go.Proofs Go.Pl
theorem qf6 (text : qk) (st : List AObj) (hl : text.length ≤ 60000) (h : (vw text).1 = none) : zr E 57 [Sv text] st fun r st' => r = .tu [qfo (vw text).2, .v .nilIface] ∧ st' = st := by
 have := qm3 text st hl
 unfold qei at this
 rw [h] at this
 exact this
theorem qo5 (text : qk) (st : List AObj) (a n : Int) (hl : text.length ≤ 60000) (h : (vw text).1 = some (a, n)) : zr E 57 [Sv text] st fun r st' => r = .tu [qfo (vw text).2, .ifc 103 (.pp [Iv a, .ifc 31 (Iv n)])] ∧ st' = st := by
 have := qm3 text st hl
 unfold qei at this
 rw [h] at this
 exact this
def qan (text : qk) : List Fld × Bool :=
 if (v7 [32, 32] text).2 = false ∨ (vw (v7 [32, 32] text).1).1 ≠ none then ([], false)
 else match yt (vw (v7 [32, 32] text).1).2 with
  | [] => ([], decide ((v7 [32, 32] text).1 = []))
  | f :: _ => (f, decide ((vw (v7 [32, 32] text).1).2.length = 1))
theorem qwk {a b : List Fld} {c d : Bool} (h1 : a = b) (h2 : c = d) : AV.tu [jd a, Bv c] = AV.tu [jd b, Bv d] := by rw [h1, h2]
theorem qqf {its : List wl} (h : ∀ x ∈ its, GF x.fields ∧ (x.kind = 3 ↔ x.fields ≠ [])) : ∀ fs ∈ yt its, GF fs ∧ fs ≠ [] := fun fs hfs => by
 obtain ⟨x, hx, rfl⟩ := List.mem_map.1 hfs
 obtain ⟨hx1, hx2⟩ := List.mem_filter.1 hx
 have := h x hx1
 exact ⟨this.1, this.2.1 (by simpa using hx2)⟩
set_option maxHeartbeats 2000000 in
theorem qn5 (text : qk) (st : List AObj) (hl : text.length ≤ 60000) : zr E 38 [Sv text] st fun r st' => r = .tu [jd (qan text).1, Bv (qan text).2] ∧ st' = st := by
 refine z4 (yl (qbc _) (jn _)) (zp Tryz.func38 rfl (Nat.le_of_ble_eq_true rfl) ?_)
 have hdl := qqo [32, 32] text
 have hpl := qr9 (v7 [32, 32] text).1
 have hit := qim (v7 [32, 32] text).1
 unfold qan
 obtain ⟨d, hd⟩ : ∃ d, d = v7 [32, 32] text := ⟨_, rfl⟩
 have hdc : ∀ st, zr E 78 [Sv text, Sv [32, 32]] st fun r st' => r = .tu [Sv d.1, Bv d.2] ∧ st' = st := fun st => by rw [hd]; exact quj text [32, 32] st (by omega)
 rw [← hd] at hdl hpl hit ⊢
 obtain ⟨b, ok⟩ := d
 simp only at hdl hpl hit hdc ⊢
 cases hp : (vw b).1 with
 | some e =>
  obtain ⟨a, n⟩ := e
  rw [if_pos (.inr (by simp))]
  cases ok
  all_goals
   repeat' (first
    | apply qr
    | apply qe
    | apply qa
    | apply qn
    | apply qf
    | (apply z1; exact rfl; exact rfl)
    | (apply kd; exact rfl)
    | (apply zh; (iterate 4 exact rfl))
    | (apply xq; (first | exact rfl | assumption))
    | (apply qam; (first | exact rfl | assumption))
    | (apply zk; exact rfl; first | (apply jx; (first | assumption | omega)) | (apply jw; (first | assumption | omega)) | (apply jy; (first | exact rfl | assumption)) | (apply jv; (first | exact rfl | assumption)) | (apply pk_t; (first | exact rfl | assumption)) | (apply pk_f; (first | exact rfl | assumption)))
    | (apply qg; exact rfl; first | (apply zd; (first | assumption | omega)) | (apply zf; (first | assumption | omega)) | (apply ze; (first | exact rfl | assumption)) | (apply zg; (first | exact rfl | assumption)) | (apply cd_n <;> intro h) | (apply cd_t; (first | exact rfl | assumption)) | (apply cd_f; (first | exact rfl | assumption)) | (apply cd_d <;> intro h) | (apply cd_s <;> intro h))
    | (apply ku; exact rfl; exact rfl)
    | apply q9
    | (apply qi; exact Tryz.call78; exact hdc _)
    | (apply qi; exact Tryz.call57; exact qo5 _ _ _ _ (by omega) hp))
   exact qs rfl (kq (ju rfl) (vj (vd 2) (kp (Bv false)))) ⟨rfl, _, rfl⟩
 | none =>
  cases ok
  ·rw [if_pos (.inl rfl)]
   repeat' (first
    | apply qr
    | apply qe
    | apply qa
    | apply qn
    | apply qf
    | (apply z1; exact rfl; exact rfl)
    | (apply kd; exact rfl)
    | (apply zh; (iterate 4 exact rfl))
    | (apply qam; (first | exact rfl | assumption))
    | (apply zk; exact rfl; first | (apply jx; (first | assumption | omega)) | (apply jw; (first | assumption | omega)) | (apply jy; (first | exact rfl | assumption)) | (apply jv; (first | exact rfl | assumption)) | (apply pk_t; (first | exact rfl | assumption)) | (apply pk_f; (first | exact rfl | assumption)))
    | (apply qg; exact rfl; first | (apply zd; (first | assumption | omega)) | (apply zf; (first | assumption | omega)) | (apply ze; (first | exact rfl | assumption)) | (apply zg; (first | exact rfl | assumption)) | (apply cd_n <;> intro h) | (apply cd_t; (first | exact rfl | assumption)) | (apply cd_f; (first | exact rfl | assumption)) | (apply cd_d <;> intro h) | (apply cd_s <;> intro h))
    | apply q9
    | (apply qi; exact Tryz.call78; exact hdc _)
    | (apply qi; exact Tryz.call57; exact qf6 _ _ (by omega) hp))
   exact qs rfl (kq (ju rfl) (vj (vd 2) (kp (Bv false)))) ⟨rfl, _, rfl⟩
  ·rw [if_neg (by simp)]
   have hsc := fun st => qsr (vw b).2 st (by omega) (fun x hx => by have := (hit x hx).1.1; omega)
   have hml : ((vw b).2.map zu).length = (vw b).2.length := by simp
   cases hr : yt (vw b).2 with
   | nil =>
    rw [hr] at hsc
    repeat' (first
     | apply qr
     | apply qe
     | apply qa
     | apply qn
     | apply qf
     | (apply z1; exact rfl; exact rfl)
     | (apply qt; (iterate 3 exact rfl))
     | (apply kw; (iterate 3 exact rfl))
     | (apply kd; exact rfl)
     | (apply zh; (iterate 4 exact rfl))
     | (apply xq; (first | exact rfl | assumption))
     | (apply zk; exact rfl; first | (apply jx; (first | assumption | omega)) | (apply jw; (first | assumption | omega)) | (apply jy; (first | exact rfl | assumption)) | (apply jv; (first | exact rfl | assumption)) | (apply pk_t; (first | exact rfl | assumption)) | (apply pk_f; (first | exact rfl | assumption)))
     | (apply qg; exact rfl; first | (apply zd; (first | assumption | omega)) | (apply zf; (first | assumption | omega)) | (apply ze; (first | exact rfl | assumption)) | (apply zg; (first | exact rfl | assumption)) | (apply cd_n <;> intro h) | (apply cd_t; (first | exact rfl | assumption)) | (apply cd_f; (first | exact rfl | assumption)) | (apply cd_d <;> intro h) | (apply cd_s <;> intro h))
     | (apply zo; (iterate 4 exact rfl))
     | (apply j3; exact rfl; exact rfl)
     | apply q8
     | apply q9
     | (apply qi; exact Tryz.call78; exact hdc _)
     | (apply qi; exact Tryz.call57; exact qf6 _ _ (by omega) hp)
     | (apply qi; exact Tryz.call79; exact hsc _))
    exact qs rfl (kq (ju rfl) (vj (vd 2) (kp (Bv (decide (b = [])))))) ⟨rfl, _, rfl⟩
   | cons f r =>
    rw [hr] at hsc
    have hrl : ((f :: r).map jd).length = r.length + 1 := by simp
    repeat' (first
     | apply qr
     | apply qe
     | apply qa
     | apply qn
     | apply qf
     | (apply z1; exact rfl; exact rfl)
     | (apply qt; (iterate 3 exact rfl))
     | (apply kd; exact rfl)
     | (apply zh; (iterate 4 exact rfl))
     | (apply xq; (first | exact rfl | assumption))
     | (apply zk; exact rfl; first | (apply jx; (first | assumption | omega)) | (apply jw; (first | assumption | omega)) | (apply jy; (first | exact rfl | assumption)) | (apply jv; (first | exact rfl | assumption)) | (apply pk_t; (first | exact rfl | assumption)) | (apply pk_f; (first | exact rfl | assumption)))
     | (apply qg; exact rfl; first | (apply zd; (first | assumption | omega)) | (apply zf; (first | assumption | omega)) | (apply ze; (first | exact rfl | assumption)) | (apply zg; (first | exact rfl | assumption)) | (apply cd_n <;> intro h) | (apply cd_t; (first | exact rfl | assumption)) | (apply cd_f; (first | exact rfl | assumption)) | (apply cd_d <;> intro h) | (apply cd_s <;> intro h))
     | (apply zo; (iterate 4 exact rfl))
     | (apply j3; exact rfl; exact rfl)
     | (apply qv; (iterate 3 exact rfl))
     | apply q8
     | apply q9
     | (apply qi; exact Tryz.call78; exact hdc _)
     | (apply qi; exact Tryz.call57; exact qf6 _ _ (by omega) hp)
     | (apply qi; exact Tryz.call79; exact hsc _)
     | (apply zy (n := 0); (iterate 6 exact rfl)))
    refine qs rfl (ju rfl) ⟨qwk rfl (decide_eq_decide.2 ?_), _, rfl⟩
    rw [hml]
    omega
end Go.Proofs.YtefmcijohgpfhaaGreatDoor
set_option linter.unusedVariables false
namespace Go.Av
open Go Go.RowKit
def qfk (o : Oper) : Bool := match o.op with
 | .defer _ => false
 | _ => true
theorem qjm {o : Oper} (h : qfk o = true) : ∀ c, o.op ≠ .defer c := fun c e => by
 unfold qfk at h
 rw [e] at h
 simp at h
theorem qtn {P : Program} {ops : Array Oper} {Q : Exit → Act → World → Prop} {l i : Nat} {K : Act → World → Prop} {a : Act} {w : World} (hnd : ∀ o, ops[i]? = some o → qfk o = true) (h : wpOpIn (fw none) 0 P ops Q i K a w) : wpOpIn (fw (some l)) 0 P ops Q i K a w := by
 unfold wpOpIn at *
 cases ho : ops[i]? with
 | none => simp only [ho] at h ⊢; exact h
 | some o =>
  simp only [ho] at h ⊢
  split
  ·rename_i hw
   rw [if_pos hw] at h
   unfold Oper.wpIn at *
   rw [qch (rd := none) (qjm (hnd o ho))] at h
   rw [qch (rd := some l) (qjm (hnd o ho))]
   exact h
  ·rename_i hw
   rw [if_neg hw] at h
   exact h
theorem qjl {P : Program} {ops : Array Oper} {Q : Exit → Act → World → Prop} {l : Nat} {md : Region.Mode} (hnd : ops.all qfk = true) : ∀ (fuel : Nat) (listed : Array Bool) (a : Act) (w : World), wpAnyIn (fw none) 0 P md ops Q fuel listed a w → wpAnyIn (fw (some l)) 0 P md ops Q fuel listed a w
 | 0, _, _, _, h => h
 | fuel + 1, listed, a, w, h => ⟨h.1, fun i hi => qtn (fun o ho => by
   rw [Array.all_eq_true] at hnd
   obtain ⟨h1, h2⟩ := Array.getElem?_eq_some_iff.1 ho
   rw [← h2]
   exact hnd i h1) (wpOpIn_mono (fun a w => qjl hnd fuel _ a w) (h.2 i hi))⟩
theorem qrn {E : Env} {rd : Option Nat} {N : Nat} {ops : Array Oper} {s : AS} {id : Nat} {Q : Exit → AS → Prop} {n : Nat} (hm : E.P.follows .mixedOrders = true) (hd : ops.all qfk = true) (hn : ops.size = n) (h : AZ E N ops n (Array.replicate n false) (Q .normal) s) : AWp E rd N (.region id ops true) Q s := by
 cases rd with
 | none => exact x8 hm hn h
 | some l =>
  subst hn
  refine ⟨fun B0 w0 G a w hL hI => ?_⟩
  have hBl : Below w.heap.size w { w with drawn := w.drawn + 1 } := ⟨rfl, rfl, rfl, Nat.le_refl _, fun _ _ => rfl⟩
  have hI2 : Inv B0 w0 N G s a { w with drawn := w.drawn + 1 } := ⟨hI.agree.fresh hBl, hI.defers, hI.size, hI.tmps⟩
  have := h.run B0 w0 G a _ hL hI2 (fun a' w' => ∃ (G' : Gh) (s' : AS), G.le G' ∧ Inv B0 w0 N G' s' a' w' ∧ Q .normal s') fun G' s' a' w' hG hI' hk => ⟨G', s', hG, hI', hk⟩
  refine wpIn_mono (wpIn_region_any hm (qjl hd _ _ _ _ this)) fun e a' w' hq => ?_
  cases e with
  | normal => exact hq
  | _ => exact hq.elim
end Go.Av
set_option maxRecDepth 100000
set_option linter.unusedVariables false
namespace Go.Proofs.YtefmcijohgpfhaaGreatDoor
open Go Go.Av Go.RowKit Go.Proofs Go.Pl
def v4 (text : qk) : List LnV → Nat → List qk
 | [], frm => [text.drop frm]
 | l :: r, frm => if frm < l.at' ∧ ¬ [32, 32] <+: l.text then (text.take l.at').drop frm :: v4 text r l.at' else v4 text r frm
def wh (text : qk) : List qk := v4 text (lns text) 0
theorem qu {b t1 k sz : Nat} {T : TypeId} {xs : List AV} {c : AV} {S S' : List AObj} {x : AObj} (hf : Fr S S' t1) (hid : c = .sl sz xs (some t1) ∨ S.length ≤ t1) (hT : TipO b S sz T xs c) (hx : S[k]? = some x) (hn : qb1 (some x)) : S'[k]? = some x := by
 refine (hf.same k (fun e => ?_) (lt_of_getElem? hx)).trans hx
 subst e
 rcases hid with hid | hid
 ·rcases hT with (⟨_, h⟩ | ⟨t, h1, h2, _⟩) | ⟨_, o, v, f, h⟩
  ·rw [h] at hid; simp at hid
  ·rw [hid] at h1
   simp only [AV.sl.injEq, Option.some.injEq, true_and] at h1
   rw [← h1] at h2
   rw [hx] at h2
   exact hn _ _ _ h2
  ·rw [h] at hid; simp at hid
 ·have := lt_of_getElem? hx
  omega
theorem qbh {st S S' : List AObj} {t1 : Nat} (hf : Fr S S' t1) (hle : st.length ≤ S.length) (ht : st.length ≤ t1) (hlow : ∀ j, j < st.length → S[j]? = st[j]?) : ∀ j, j < st.length → S'[j]? = st[j]? :=
 fun j hj => (hf.same j (by omega) (by omega)).trans (hlow j hj)
theorem kf {b sz : Nat} {T : TypeId} {xs : List AV} {c : AV} {S : List AObj} (h : TipO b S sz T xs c) : c.okc = true := by
 rcases h with (⟨_, rfl⟩ | ⟨t, rfl, _⟩) | ⟨_, o, v, f, rfl⟩ <;> rfl
theorem jt {b sz : Nat} {T : TypeId} {xs : List AV} {c : AV} {S : List AObj} (h : TipO b S sz T xs c) : c.cells = [c] := by
 rcases h with (⟨_, rfl⟩ | ⟨t, rfl, _⟩) | ⟨_, o, v, f, rfl⟩ <;> rfl
theorem qjc {b sz : Nat} {T : TypeId} {xs : List AV} {c : AV} {S : List AObj} (h : TipO b S sz T xs c) : lenA c = some xs.length := by
 rcases h with (⟨rfl, rfl⟩ | ⟨t, rfl, _⟩) | ⟨rfl, o, v, f, rfl⟩ <;> rfl
theorem ke {b sz : Nat} {T : TypeId} {xs : List AV} {c : AV} {S : List AObj} (h : TipO b S sz T xs c) : wg [c] = true := by
 rcases h with (⟨_, rfl⟩ | ⟨t, rfl, _⟩) | ⟨_, o, v, f, rfl⟩ <;> rfl
structure qa3 (st : List AObj) (text : qk) (out : List qk) (frm : Nat) (c : AV) (S : List AObj) : Prop where
 low : ∀ j, j < st.length → S[j]? = st[j]?
 c0 : S[st.length + 0]? = some (.cells 0 9 [Sv text])
 c1 : S[st.length + 1]? = some (.cells 0 70 [c])
 c2 : S[st.length + 2]? = some (.cells 0 3 [Iv frm])
 c3 : S[st.length + 3]? = some (.cells 0 9 [Sv text])
 tip : TipO (st.length + 4) S 1 9 (out.map fun x => Sv x) c
theorem qa3.ext {st : List AObj} {text : qk} {out : List qk} {frm : Nat} {c : AV} {S S' : List AObj} (h : qa3 st text out frm c S) (hE : Ext (st.length + 4) S S') : qa3 st text out frm c S' :=
 ⟨fun j hj => (hE.low j (by omega)).trans (h.low j hj), (hE.low _ (by omega)).trans h.c0, (hE.low _ (by omega)).trans h.c1, (hE.low _ (by omega)).trans h.c2, (hE.low _ (by omega)).trans h.c3, qkn hE.tips h.tip⟩
theorem qa3.app {st : List AObj} {text p : qk} {out : List qk} {frm nx : Nat} {c c' : AV} {S S' : List AObj} {t1 : Nat} (h : qa3 st text out frm c S) (g1 : TipO (st.length + 4) S' 1 9 ((out.map fun x => Sv x) ++ [Sv p]) c') (g2 : Fr S S' t1) (g3 : st.length + 4 ≤ t1) (g4 : c = .sl 1 (out.map fun x => Sv x) (some t1) ∨ S.length ≤ t1) :
  qa3 st text (out ++ [p]) nx c' ((S'.set (st.length + 1) (.cells 0 70 [c'])).set (st.length + 2) (.cells 0 3 [Iv nx])) := by
 have k0 := qu g2 g4 h.tip h.c0 (qw rfl)
 have k1 := qu g2 g4 h.tip h.c1 (qw rfl)
 have k2 := qu g2 g4 h.tip h.c2 (qw rfl)
 have k3 := qu g2 g4 h.tip h.c3 (qw rfl)
 have k2' : (S'.set (st.length + 1) (.cells 0 70 [c']))[st.length + 2]? = some (.cells 0 3 [Iv frm]) := qh k2 (by omega)
 refine ⟨fun j hj => (zv (by omega)).trans ((zv (by omega)).trans ?_), qh (qh k0 (by omega)) (by omega), qh (zn k1) (by omega), zn k2', qh (qh k3 (by omega)) (by omega), ?_⟩
 ·rw [← h.low j hj]
  have := lt_of_getElem? h.c0
  exact g2.same j (by omega) (by omega)
 ·rw [xi (fun x => Sv x)]
  exact qc5 (qc5 g1 (qw k1)) (qw k2')
theorem qtc (l m : qk) (st : List AObj) (h : m <+: l) : zr E 73 [Sv l, Sv m] st fun r st' => r = Bv true ∧ st' = st := by
 have := qfe l m st
 rw [(x2 l m).2 h] at this
 exact this
theorem qtp (l m : qk) (st : List AObj) (h : ¬ m <+: l) : zr E 73 [Sv l, Sv m] st fun r st' => r = Bv false ∧ st' = st := by
 have := qfe l m st
 have hf : Lib.hasPrefix l m = false := by
  cases hb : Lib.hasPrefix l m with
  | false => rfl
  | true => exact absurd ((x2 l m).1 hb) h
 rw [hf] at this
 exact this
set_option maxHeartbeats 8000000 in
theorem qv0 (text : qk) (st : List AObj) (hl : text.length < 1000000) : zr E 35 [Sv text] st fun r st' => r = Ss (wh text) ∧ st' = st := by
 refine z4 (qh9 _) (zp Tryz.func35 rfl (Nat.le_of_ble_eq_true rfl) ?_)
 repeat' (first
  | apply qr
  | apply q7
  | apply qe
  | apply qa
  | apply qf
  | (apply jh; exact rfl; exact rfl)
  | (apply ky; (iterate 4 exact rfl))
  | (apply qx; (iterate 5 exact rfl))
  | (apply q6; (iterate 11 exact rfl))
  | (refine qi Tryz.call72 (qhf _ _ _ _ rfl) ?_))
 have hSl : (st ++ [AObj.cells 0 9 [Sv text], .cells 0 70 [jm], .cells 0 3 [Iv 0], .cells 0 9 [Sv text]]).length = st.length + 4 := by simp
 have h00 : qa3 st text [] 0 jm (st ++ [AObj.cells 0 9 [Sv text], .cells 0 70 [jm], .cells 0 3 [Iv 0], .cells 0 9 [Sv text]]) :=
  ⟨fun j hj => List.getElem?_append_left hj, zw rfl, zw rfl, zw rfl, zw rfl, qd2 ..⟩
 generalize hS0 : st ++ [AObj.cells 0 9 [Sv text], .cells 0 70 [jm], .cells 0 3 [Iv 0], .cells 0 9 [Sv text]] = S0 at hSl h00
 refine wf [(1, .bx (st.length + 0) 0 0), (3, .bx (st.length + 1) 0 0), (4, .bx (st.length + 2) 0 0), (7, .fn (.func 113) [] [.bx (st.length + 3) 0 0])] S0 [] ⟨rfl, rfl, rfl, rfl, trivial⟩ hS0 rfl fun t => ?_
 refine qe1 (S0 := S0) text rfl rfl (by omega) (fun k rest S => ∃ out frm c a, qa3 st text out frm c S ∧ a + rest.length = text.length ∧ frm ≤ a ∧ out.length ≤ k ∧ k ≤ a ∧ out ++ v4 text (va k a rest) frm = wh text)
  (fun c S => False) ⟨[], 0, jm, 0, h00, by omega, by omega, by simp, by omega, rfl⟩
  (fun k rest S ⟨_, _, _, _, h, _⟩ => h.c3) (fun k rest S S' hE ⟨out, frm, c, a, h, h2⟩ => ⟨out, frm, c, a, h.ext (by rw [← hSl]; exact hE), h2⟩) (fun c S S' hE h => h) ?_ ?_ (fun c S h => h.elim)
 ·rintro F own rd k rest S hF ⟨out, frm, c, a, hi, ha, hfa, hok, hka, hrun⟩ hne hle hd1 hf1 hown hnt
  rw [hSl] at hd1 hf1 hown ⊢
  have hlen := lt_of_getElem? hown
  have hcons := yf (k := k) (a := a) hne
  have hul := wv 10 rest
  have hr0 : 0 < rest.length := List.length_pos_iff.2 hne
  have hpl := xk 10 rest
  have hpa : a + (upto 10 rest).length + 1 + (past 10 rest).length = text.length ∨ past 10 rest = [] := by
   by_cases h10 : 10 ∈ rest
   ·have := qa7 h10
    exact .inl (by omega)
   ·right
    unfold past
    rw [qd5 h10]
    simp
  have e : (text.length : Int) - rest.length = (a : Int) := by omega
  unfold qau
  rw [e]
  obtain ⟨tx, htx⟩ : ∃ x, x = upto 10 rest := ⟨_, rfl⟩
  obtain ⟨en, hen⟩ : ∃ x, x = decide (10 ∈ rest) := ⟨_, rfl⟩
  rw [← htx, ← hen]
  have c0 := hi.c0
  have c1 := hi.c1
  have c2 := hi.c2
  have htl : tx.length ≤ rest.length := by rw [htx]; exact hul
  repeat' (first
   | apply qe
   | apply qa
   | (apply x7 (st := S); exact rfl; exact rfl)
   | (apply qm; exact rfl; exact rfl; (focus first | assumption | (repeat' (first | assumption | exact jl | exact zw rfl | apply zn | apply qh | omega | apply z6))); (iterate 6 exact rfl)))
  refine ⟨(by (focus first | assumption | (repeat' (first | assumption | exact jl | exact zw rfl | apply zn | apply qh | omega | apply z6)))), rfl, ?_⟩
  have hE1 : Ext (st.length + 4) S (((S ++ [AObj.cells 0 129 [Iv 0, Iv 0, Sv [], Bv false]]).set S.length (.cells 0 129 [Iv k, Iv a, Sv tx, Bv en])).set (st.length + 4 + 1) (F .busy none)) := ((qia (by omega)).trans (yb (by omega) (qw jl))).trans (yb (by omega) (jz hF .ready none (by (focus first | assumption | (repeat' (first | assumption | exact jl | exact zw rfl | apply zn | apply qh | omega | apply z6))))))
  have hd2 : (((S ++ [AObj.cells 0 129 [Iv 0, Iv 0, Sv [], Bv false]]).set S.length (.cells 0 129 [Iv k, Iv a, Sv tx, Bv en])).set (st.length + 4 + 1) (F .busy none))[st.length + 4]? = some .dfr := by (focus first | assumption | (repeat' (first | assumption | exact jl | exact zw rfl | apply zn | apply qh | omega | apply z6)))
  have hf2 : (((S ++ [AObj.cells 0 129 [Iv 0, Iv 0, Sv [], Bv false]]).set S.length (.cells 0 129 [Iv k, Iv a, Sv tx, Bv en])).set (st.length + 4 + 1) (F .busy none))[st.length + 4 + 1]? = some (F .busy none) := by (focus first | assumption | (repeat' (first | assumption | exact jl | exact zw rfl | apply zn | apply qh | omega | apply z6)))
  have hown2 : (((S ++ [AObj.cells 0 129 [Iv 0, Iv 0, Sv [], Bv false]]).set S.length (.cells 0 129 [Iv k, Iv a, Sv tx, Bv en])).set (st.length + 4 + 1) (F .busy none))[st.length + 4 + 2]? = some own := by (focus first | assumption | (repeat' (first | assumption | exact jl | exact zw rfl | apply zn | apply qh | omega | apply z6)))
  have hln : (((S ++ [AObj.cells 0 129 [Iv 0, Iv 0, Sv [], Bv false]]).set S.length (.cells 0 129 [Iv k, Iv a, Sv tx, Bv en])).set (st.length + 4 + 1) (F .busy none))[S.length]? = some (.cells 0 129 [Iv k, Iv a, Sv tx, Bv en]) := by (focus first | assumption | (repeat' (first | assumption | exact jl | exact zw rfl | apply zn | apply qh | omega | apply z6)))
  have hi1 := hi.ext hE1
  refine wf [(1, .bx (st.length + 0) 0 0), (3, .bx (st.length + 1) 0 0), (4, .bx (st.length + 2) 0 0), (5, .bx S.length 0 0)] _ [] ⟨rfl, rfl, rfl, rfl, trivial⟩ rfl rfl fun t => ?_
  show AWp _ _ _ _ _ ⟨_, ((S ++ [AObj.cells 0 129 [Iv 0, Iv 0, Sv [], Bv false]]).set S.length (.cells 0 129 [Iv k, Iv a, Sv tx, Bv en])).set (st.length + 4 + 1) (F .busy none), []⟩
  generalize ((S ++ [AObj.cells 0 129 [Iv 0, Iv 0, Sv [], Bv false]]).set S.length (.cells 0 129 [Iv k, Iv a, Sv tx, Bv en])).set (st.length + 4 + 1) (F .busy none) = S1 at hd2 hf2 hown2 hln hi1
  clear hE1 c0 c1 c2
  have c0 := hi1.c0
  have c1 := hi1.c1
  have c2 := hi1.c2
  have hpast : ∀ f, v4 text (va (k + 1) (a + (upto 10 rest).length + 1) (past 10 rest)) f = v4 text (va (k + 1) (text.length - (past 10 rest).length) (past 10 rest)) f := fun f => by
   rcases hpa with h | h
   ·have : a + (upto 10 rest).length + 1 = text.length - (past 10 rest).length := by omega
    rw [this]
   ·rw [h, ye, ye]
  have hnext : ∀ (S' : List AObj) (out' : List qk) (frm' : Nat) (c' : AV), qa3 st text out' frm' c' S' → frm' ≤ a → out'.length ≤ k + 1 → out' ++ v4 text (va (k + 1) (a + (upto 10 rest).length + 1) (past 10 rest)) frm' = wh text →
    ∃ out frm c a, qa3 st text out frm c S' ∧ a + (past 10 rest).length = text.length ∧ frm ≤ a ∧ out.length ≤ k + 1 ∧ k + 1 ≤ a ∧ out ++ v4 text (va (k + 1) a (past 10 rest)) frm = wh text := fun S' out' frm' c' h1 h2 h3 h4 => by
   rw [hpast] at h4
   exact ⟨out', frm', c', text.length - (past 10 rest).length, h1, by omega, by omega, h3, by omega, h4⟩
  rw [hcons, ← htx] at hrun
  by_cases hgt : frm < a
  ·by_cases hpf : [32, 32] <+: tx
   ·have hrun2 : v4 text (⟨k, a, tx, decide (10 ∈ rest)⟩ :: va (k + 1) (a + tx.length + 1) (past 10 rest)) frm = v4 text (va (k + 1) (a + tx.length + 1) (past 10 rest)) frm := if_neg fun h => h.2 hpf
    rw [hrun2] at hrun
    repeat' (first
     | apply qr
     | apply q7
     | apply qe
     | apply qa
     | apply qn
     | (apply qt; (iterate 3 exact rfl))
     | (apply kd; exact rfl)
     | (apply zh; (iterate 4 exact rfl))
     | (apply xc; (first | assumption | omega))
     | (apply zk; exact rfl; first | (apply jx; (first | assumption | omega)) | (apply jw; (first | assumption | omega)) | (apply jy; (first | exact rfl | assumption)) | (apply jv; (first | exact rfl | assumption)) | (apply pk_t; (first | exact rfl | assumption)) | (apply pk_f; (first | exact rfl | assumption)))
     | (apply qg; exact rfl; first | (apply zd; (first | assumption | omega)) | (apply zf; (first | assumption | omega)) | (apply ze; (first | exact rfl | assumption)) | (apply zg; (first | exact rfl | assumption)) | (apply cd_n <;> intro h) | (apply cd_t; (first | exact rfl | assumption)) | (apply cd_f; (first | exact rfl | assumption)) | (apply cd_d <;> intro h) | (apply cd_s <;> intro h))
     | (apply za; (iterate 3 exact rfl))
     | apply q8
     | (apply qi; exact Tryz.call73; exact qtc _ _ _ hpf)
     | (apply qb; exact rfl; (focus first | assumption | (repeat' (first | assumption | exact jl | exact zw rfl | apply zn | apply qh | omega | apply z6))); exact rfl; exact rfl))
    exact ⟨hd2, hf2, hown2, hnext S1 out frm c hi1 hfa (by omega) (by rw [← htx]; exact hrun)⟩
   ·have hrun2 : v4 text (⟨k, a, tx, decide (10 ∈ rest)⟩ :: va (k + 1) (a + tx.length + 1) (past 10 rest)) frm = (text.take a).drop frm :: v4 text (va (k + 1) (a + tx.length + 1) (past 10 rest)) a := if_pos ⟨hgt, hpf⟩
    rw [hrun2] at hrun
    have hS1 := lt_of_getElem? hown2
    have hSle : st.length + 4 ≤ S1.length := by omega
    have hmo : (out.map fun x => Sv x).length = out.length := by simp
    repeat' (first
     | apply qr
     | apply q7
     | apply qe
     | apply qa
     | apply qn
     | (apply qt; (iterate 3 exact rfl))
     | (apply kd; exact rfl)
     | (apply zh; (iterate 4 exact rfl))
     | (apply xc; (first | assumption | omega))
     | (apply zk; exact rfl; first | (apply jx; (first | assumption | omega)) | (apply jw; (first | assumption | omega)) | (apply jy; (first | exact rfl | assumption)) | (apply jv; (first | exact rfl | assumption)) | (apply pk_t; (first | exact rfl | assumption)) | (apply pk_f; (first | exact rfl | assumption)))
     | (apply qg; exact rfl; first | (apply zd; (first | assumption | omega)) | (apply zf; (first | assumption | omega)) | (apply ze; (first | exact rfl | assumption)) | (apply zg; (first | exact rfl | assumption)) | (apply cd_n <;> intro h) | (apply cd_t; (first | exact rfl | assumption)) | (apply cd_f; (first | exact rfl | assumption)) | (apply cd_d <;> intro h) | (apply cd_s <;> intro h))
     | (apply za; (iterate 3 exact rfl))
     | (apply qi; exact Tryz.call73; exact qtp _ _ _ hpf)
     | (apply qb; exact rfl; (focus first | assumption | (repeat' (first | assumption | exact jl | exact zw rfl | apply zn | apply qh | omega | apply z6))); exact rfl; exact rfl))
    show AWp _ _ _ _ _ _
    refine qat (fun s => s.t 4 = .bx (st.length + 2) 0 0 ∧ s.t 5 = .bx S.length 0 0 ∧ s.df = [] ∧ s.st[st.length + 4]? = some .dfr ∧ s.st[st.length + 4 + 1]? = some (F .busy none) ∧ s.st[st.length + 4 + 2]? = some own ∧ s.st[S.length]? = some (.cells 0 129 [Iv k, Iv a, Sv tx, Bv en]) ∧ s.st[st.length + 2]? = some (.cells 0 3 [Iv frm]) ∧ ∃ c', qa3 st text (out ++ [(text.take a).drop frm]) a c' (s.st.set (st.length + 2) (.cells 0 3 [Iv a]))) ?_ ?_
    ·refine qrn rfl (by kernel_rfl) rfl ?_
     (apply qo 3; exact rfl; kernel_rfl; kernel_rfl; kernel_rfl; exact rfl; (first | (apply qq; (iterate 3 exact rfl)) | (apply qp; (iterate 4 exact rfl))))
     refine qc [0, 1, 2, 4] (by kernel_rfl) rfl ⟨⟨_, rfl, ?_⟩, ⟨_, rfl, ?_⟩, ⟨_, rfl, ?_⟩, ⟨_, rfl, ?_⟩, trivial⟩
     ·(apply qb; exact rfl; (first | exact c0 | exact c1 | exact c2 | exact hln); exact rfl; exact rfl)
      apply qa
      refine qc [1, 2, 4] (by kernel_rfl) rfl ⟨⟨_, rfl, ?_⟩, ⟨_, rfl, ?_⟩, ⟨_, rfl, ?_⟩, trivial⟩
      ·(apply qb; exact rfl; (first | exact c0 | exact c1 | exact c2 | exact hln); exact rfl; exact rfl)
       apply qa
       refine qc [2, 4] (by kernel_rfl) rfl ⟨⟨_, rfl, ?_⟩, ⟨_, rfl, ?_⟩, trivial⟩
       ·(apply qb; exact rfl; (first | exact c0 | exact c1 | exact c2 | exact hln); exact rfl; exact rfl)
        apply qa
        refine qc [4] (by kernel_rfl) rfl ⟨⟨_, rfl, ?_⟩, trivial⟩
        (apply qb; exact rfl; (first | exact c0 | exact c1 | exact c2 | exact hln); exact rfl; exact rfl)
        apply qa
        refine qc [5] (by kernel_rfl) rfl ⟨⟨_, rfl, ?_⟩, trivial⟩
        (first | (apply ql (b := st.length + 4) (xs := out.map fun x => Sv x) (ys := [Sv ((text.take a).drop frm)]) (bytes := 16);  (iterate 5 exact rfl); exact ⟨⟨_, _, rfl, rfl, rfl, rfl, rfl⟩⟩; exact hi1.tip; (exact hSle); (first | exact rfl | exact qy fun _ => rfl); ((simp [maxLen]; omega)); ((simp; omega)); intro c' S2 t1 g1 g2 g3 g4; replace g2 : Fr S1 S2 t1 := g2; replace g4 : c = .sl 1 (out.map fun x => Sv x) (some t1) ∨ S1.length ≤ t1 := g4) | (apply zz (i := frm) (j := a); (iterate 4 exact rfl); exact hfa; omega))
        apply qa
        refine qc [6] (by kernel_rfl) rfl ⟨⟨_, rfl, ?_⟩, trivial⟩
        (apply qj; (iterate 9 exact rfl))
        apply qa
        refine qc [7] (by kernel_rfl) rfl ⟨⟨_, rfl, ?_⟩, trivial⟩
        (first | (apply ql (b := st.length + 4) (xs := out.map fun x => Sv x) (ys := [Sv ((text.take a).drop frm)]) (bytes := 16);  (iterate 5 exact rfl); exact ⟨⟨_, _, rfl, rfl, rfl, rfl, rfl⟩⟩; exact hi1.tip; (exact hSle); (first | exact rfl | exact qy fun _ => rfl); ((simp [maxLen]; omega)); ((simp; omega)); intro c' S2 t1 g1 g2 g3 g4; replace g2 : Fr S1 S2 t1 := g2; replace g4 : c = .sl 1 (out.map fun x => Sv x) (some t1) ∨ S1.length ≤ t1 := g4) | (apply zz (i := frm) (j := a); (iterate 4 exact rfl); exact hfa; omega))
        apply qa
        refine qc [8] (by kernel_rfl) rfl ⟨⟨_, rfl, ?_⟩, trivial⟩
        (apply qm; exact rfl; exact rfl; exact qu g2 g4 hi1.tip c1 (qw rfl); exact rfl; exact kf g1; exact jt g1; exact rfl; exact ke g1; exact rfl)
        apply qa
        refine zj (by kernel_rfl) ?_
        exact ⟨rfl, rfl, rfl, qh (qu g2 g4 hi1.tip hd2 ja) (by omega), qh (qu g2 g4 hi1.tip hf2 (jz hF _ _ rfl)) (by omega), qh (qu g2 g4 hi1.tip hown2 hnt) (by omega), qh (qu g2 g4 hi1.tip hln (qw rfl)) (by omega), qh (qu g2 g4 hi1.tip c2 (qw rfl)) (by omega), c', hi1.app g1 g2 g3 g4⟩
       ·(apply qb; exact rfl; (first | exact c0 | exact c1 | exact c2 | exact hln); exact rfl; exact rfl)
        apply qa
        refine qc [2] (by kernel_rfl) rfl ⟨⟨_, rfl, ?_⟩, trivial⟩
        (apply qb; exact rfl; (first | exact c0 | exact c1 | exact c2 | exact hln); exact rfl; exact rfl)
        apply qa
        refine qc [5] (by kernel_rfl) rfl ⟨⟨_, rfl, ?_⟩, trivial⟩
        (first | (apply ql (b := st.length + 4) (xs := out.map fun x => Sv x) (ys := [Sv ((text.take a).drop frm)]) (bytes := 16);  (iterate 5 exact rfl); exact ⟨⟨_, _, rfl, rfl, rfl, rfl, rfl⟩⟩; exact hi1.tip; (exact hSle); (first | exact rfl | exact qy fun _ => rfl); ((simp [maxLen]; omega)); ((simp; omega)); intro c' S2 t1 g1 g2 g3 g4; replace g2 : Fr S1 S2 t1 := g2; replace g4 : c = .sl 1 (out.map fun x => Sv x) (some t1) ∨ S1.length ≤ t1 := g4) | (apply zz (i := frm) (j := a); (iterate 4 exact rfl); exact hfa; omega))
        apply qa
        refine qc [6] (by kernel_rfl) rfl ⟨⟨_, rfl, ?_⟩, trivial⟩
        (apply qj; (iterate 9 exact rfl))
        apply qa
        refine qc [7] (by kernel_rfl) rfl ⟨⟨_, rfl, ?_⟩, trivial⟩
        (first | (apply ql (b := st.length + 4) (xs := out.map fun x => Sv x) (ys := [Sv ((text.take a).drop frm)]) (bytes := 16);  (iterate 5 exact rfl); exact ⟨⟨_, _, rfl, rfl, rfl, rfl, rfl⟩⟩; exact hi1.tip; (exact hSle); (first | exact rfl | exact qy fun _ => rfl); ((simp [maxLen]; omega)); ((simp; omega)); intro c' S2 t1 g1 g2 g3 g4; replace g2 : Fr S1 S2 t1 := g2; replace g4 : c = .sl 1 (out.map fun x => Sv x) (some t1) ∨ S1.length ≤ t1 := g4) | (apply zz (i := frm) (j := a); (iterate 4 exact rfl); exact hfa; omega))
        apply qa
        refine qc [8] (by kernel_rfl) rfl ⟨⟨_, rfl, ?_⟩, trivial⟩
        (apply qm; exact rfl; exact rfl; exact qu g2 g4 hi1.tip c1 (qw rfl); exact rfl; exact kf g1; exact jt g1; exact rfl; exact ke g1; exact rfl)
        apply qa
        refine zj (by kernel_rfl) ?_
        exact ⟨rfl, rfl, rfl, qh (qu g2 g4 hi1.tip hd2 ja) (by omega), qh (qu g2 g4 hi1.tip hf2 (jz hF _ _ rfl)) (by omega), qh (qu g2 g4 hi1.tip hown2 hnt) (by omega), qh (qu g2 g4 hi1.tip hln (qw rfl)) (by omega), qh (qu g2 g4 hi1.tip c2 (qw rfl)) (by omega), c', hi1.app g1 g2 g3 g4⟩
      ·(apply qb; exact rfl; (first | exact c0 | exact c1 | exact c2 | exact hln); exact rfl; exact rfl)
       apply qa
       refine qc [1, 4] (by kernel_rfl) rfl ⟨⟨_, rfl, ?_⟩, ⟨_, rfl, ?_⟩, trivial⟩
       ·(apply qb; exact rfl; (first | exact c0 | exact c1 | exact c2 | exact hln); exact rfl; exact rfl)
        apply qa
        refine qc [4] (by kernel_rfl) rfl ⟨⟨_, rfl, ?_⟩, trivial⟩
        (apply qb; exact rfl; (first | exact c0 | exact c1 | exact c2 | exact hln); exact rfl; exact rfl)
        apply qa
        refine qc [5] (by kernel_rfl) rfl ⟨⟨_, rfl, ?_⟩, trivial⟩
        (first | (apply ql (b := st.length + 4) (xs := out.map fun x => Sv x) (ys := [Sv ((text.take a).drop frm)]) (bytes := 16);  (iterate 5 exact rfl); exact ⟨⟨_, _, rfl, rfl, rfl, rfl, rfl⟩⟩; exact hi1.tip; (exact hSle); (first | exact rfl | exact qy fun _ => rfl); ((simp [maxLen]; omega)); ((simp; omega)); intro c' S2 t1 g1 g2 g3 g4; replace g2 : Fr S1 S2 t1 := g2; replace g4 : c = .sl 1 (out.map fun x => Sv x) (some t1) ∨ S1.length ≤ t1 := g4) | (apply zz (i := frm) (j := a); (iterate 4 exact rfl); exact hfa; omega))
        apply qa
        refine qc [6] (by kernel_rfl) rfl ⟨⟨_, rfl, ?_⟩, trivial⟩
        (apply qj; (iterate 9 exact rfl))
        apply qa
        refine qc [7] (by kernel_rfl) rfl ⟨⟨_, rfl, ?_⟩, trivial⟩
        (first | (apply ql (b := st.length + 4) (xs := out.map fun x => Sv x) (ys := [Sv ((text.take a).drop frm)]) (bytes := 16);  (iterate 5 exact rfl); exact ⟨⟨_, _, rfl, rfl, rfl, rfl, rfl⟩⟩; exact hi1.tip; (exact hSle); (first | exact rfl | exact qy fun _ => rfl); ((simp [maxLen]; omega)); ((simp; omega)); intro c' S2 t1 g1 g2 g3 g4; replace g2 : Fr S1 S2 t1 := g2; replace g4 : c = .sl 1 (out.map fun x => Sv x) (some t1) ∨ S1.length ≤ t1 := g4) | (apply zz (i := frm) (j := a); (iterate 4 exact rfl); exact hfa; omega))
        apply qa
        refine qc [8] (by kernel_rfl) rfl ⟨⟨_, rfl, ?_⟩, trivial⟩
        (apply qm; exact rfl; exact rfl; exact qu g2 g4 hi1.tip c1 (qw rfl); exact rfl; exact kf g1; exact jt g1; exact rfl; exact ke g1; exact rfl)
        apply qa
        refine zj (by kernel_rfl) ?_
        exact ⟨rfl, rfl, rfl, qh (qu g2 g4 hi1.tip hd2 ja) (by omega), qh (qu g2 g4 hi1.tip hf2 (jz hF _ _ rfl)) (by omega), qh (qu g2 g4 hi1.tip hown2 hnt) (by omega), qh (qu g2 g4 hi1.tip hln (qw rfl)) (by omega), qh (qu g2 g4 hi1.tip c2 (qw rfl)) (by omega), c', hi1.app g1 g2 g3 g4⟩
       ·(apply qb; exact rfl; (first | exact c0 | exact c1 | exact c2 | exact hln); exact rfl; exact rfl)
        apply qa
        refine qc [1] (by kernel_rfl) rfl ⟨⟨_, rfl, ?_⟩, trivial⟩
        (apply qb; exact rfl; (first | exact c0 | exact c1 | exact c2 | exact hln); exact rfl; exact rfl)
        apply qa
        refine qc [5] (by kernel_rfl) rfl ⟨⟨_, rfl, ?_⟩, trivial⟩
        (first | (apply ql (b := st.length + 4) (xs := out.map fun x => Sv x) (ys := [Sv ((text.take a).drop frm)]) (bytes := 16);  (iterate 5 exact rfl); exact ⟨⟨_, _, rfl, rfl, rfl, rfl, rfl⟩⟩; exact hi1.tip; (exact hSle); (first | exact rfl | exact qy fun _ => rfl); ((simp [maxLen]; omega)); ((simp; omega)); intro c' S2 t1 g1 g2 g3 g4; replace g2 : Fr S1 S2 t1 := g2; replace g4 : c = .sl 1 (out.map fun x => Sv x) (some t1) ∨ S1.length ≤ t1 := g4) | (apply zz (i := frm) (j := a); (iterate 4 exact rfl); exact hfa; omega))
        apply qa
        refine qc [6] (by kernel_rfl) rfl ⟨⟨_, rfl, ?_⟩, trivial⟩
        (apply qj; (iterate 9 exact rfl))
        apply qa
        refine qc [7] (by kernel_rfl) rfl ⟨⟨_, rfl, ?_⟩, trivial⟩
        (first | (apply ql (b := st.length + 4) (xs := out.map fun x => Sv x) (ys := [Sv ((text.take a).drop frm)]) (bytes := 16);  (iterate 5 exact rfl); exact ⟨⟨_, _, rfl, rfl, rfl, rfl, rfl⟩⟩; exact hi1.tip; (exact hSle); (first | exact rfl | exact qy fun _ => rfl); ((simp [maxLen]; omega)); ((simp; omega)); intro c' S2 t1 g1 g2 g3 g4; replace g2 : Fr S1 S2 t1 := g2; replace g4 : c = .sl 1 (out.map fun x => Sv x) (some t1) ∨ S1.length ≤ t1 := g4) | (apply zz (i := frm) (j := a); (iterate 4 exact rfl); exact hfa; omega))
        apply qa
        refine qc [8] (by kernel_rfl) rfl ⟨⟨_, rfl, ?_⟩, trivial⟩
        (apply qm; exact rfl; exact rfl; exact qu g2 g4 hi1.tip c1 (qw rfl); exact rfl; exact kf g1; exact jt g1; exact rfl; exact ke g1; exact rfl)
        apply qa
        refine zj (by kernel_rfl) ?_
        exact ⟨rfl, rfl, rfl, qh (qu g2 g4 hi1.tip hd2 ja) (by omega), qh (qu g2 g4 hi1.tip hf2 (jz hF _ _ rfl)) (by omega), qh (qu g2 g4 hi1.tip hown2 hnt) (by omega), qh (qu g2 g4 hi1.tip hln (qw rfl)) (by omega), qh (qu g2 g4 hi1.tip c2 (qw rfl)) (by omega), c', hi1.app g1 g2 g3 g4⟩
      ·(apply qb; exact rfl; (first | exact c0 | exact c1 | exact c2 | exact hln); exact rfl; exact rfl)
       apply qa
       refine qc [1, 2] (by kernel_rfl) rfl ⟨⟨_, rfl, ?_⟩, ⟨_, rfl, ?_⟩, trivial⟩
       ·(apply qb; exact rfl; (first | exact c0 | exact c1 | exact c2 | exact hln); exact rfl; exact rfl)
        apply qa
        refine qc [2] (by kernel_rfl) rfl ⟨⟨_, rfl, ?_⟩, trivial⟩
        (apply qb; exact rfl; (first | exact c0 | exact c1 | exact c2 | exact hln); exact rfl; exact rfl)
        apply qa
        refine qc [5] (by kernel_rfl) rfl ⟨⟨_, rfl, ?_⟩, trivial⟩
        (first | (apply ql (b := st.length + 4) (xs := out.map fun x => Sv x) (ys := [Sv ((text.take a).drop frm)]) (bytes := 16);  (iterate 5 exact rfl); exact ⟨⟨_, _, rfl, rfl, rfl, rfl, rfl⟩⟩; exact hi1.tip; (exact hSle); (first | exact rfl | exact qy fun _ => rfl); ((simp [maxLen]; omega)); ((simp; omega)); intro c' S2 t1 g1 g2 g3 g4; replace g2 : Fr S1 S2 t1 := g2; replace g4 : c = .sl 1 (out.map fun x => Sv x) (some t1) ∨ S1.length ≤ t1 := g4) | (apply zz (i := frm) (j := a); (iterate 4 exact rfl); exact hfa; omega))
        apply qa
        refine qc [6] (by kernel_rfl) rfl ⟨⟨_, rfl, ?_⟩, trivial⟩
        (apply qj; (iterate 9 exact rfl))
        apply qa
        refine qc [7] (by kernel_rfl) rfl ⟨⟨_, rfl, ?_⟩, trivial⟩
        (first | (apply ql (b := st.length + 4) (xs := out.map fun x => Sv x) (ys := [Sv ((text.take a).drop frm)]) (bytes := 16);  (iterate 5 exact rfl); exact ⟨⟨_, _, rfl, rfl, rfl, rfl, rfl⟩⟩; exact hi1.tip; (exact hSle); (first | exact rfl | exact qy fun _ => rfl); ((simp [maxLen]; omega)); ((simp; omega)); intro c' S2 t1 g1 g2 g3 g4; replace g2 : Fr S1 S2 t1 := g2; replace g4 : c = .sl 1 (out.map fun x => Sv x) (some t1) ∨ S1.length ≤ t1 := g4) | (apply zz (i := frm) (j := a); (iterate 4 exact rfl); exact hfa; omega))
        apply qa
        refine qc [8] (by kernel_rfl) rfl ⟨⟨_, rfl, ?_⟩, trivial⟩
        (apply qm; exact rfl; exact rfl; exact qu g2 g4 hi1.tip c1 (qw rfl); exact rfl; exact kf g1; exact jt g1; exact rfl; exact ke g1; exact rfl)
        apply qa
        refine zj (by kernel_rfl) ?_
        exact ⟨rfl, rfl, rfl, qh (qu g2 g4 hi1.tip hd2 ja) (by omega), qh (qu g2 g4 hi1.tip hf2 (jz hF _ _ rfl)) (by omega), qh (qu g2 g4 hi1.tip hown2 hnt) (by omega), qh (qu g2 g4 hi1.tip hln (qw rfl)) (by omega), qh (qu g2 g4 hi1.tip c2 (qw rfl)) (by omega), c', hi1.app g1 g2 g3 g4⟩
       ·(apply qb; exact rfl; (first | exact c0 | exact c1 | exact c2 | exact hln); exact rfl; exact rfl)
        apply qa
        refine qc [1] (by kernel_rfl) rfl ⟨⟨_, rfl, ?_⟩, trivial⟩
        (apply qb; exact rfl; (first | exact c0 | exact c1 | exact c2 | exact hln); exact rfl; exact rfl)
        apply qa
        refine qc [5] (by kernel_rfl) rfl ⟨⟨_, rfl, ?_⟩, trivial⟩
        (first | (apply ql (b := st.length + 4) (xs := out.map fun x => Sv x) (ys := [Sv ((text.take a).drop frm)]) (bytes := 16);  (iterate 5 exact rfl); exact ⟨⟨_, _, rfl, rfl, rfl, rfl, rfl⟩⟩; exact hi1.tip; (exact hSle); (first | exact rfl | exact qy fun _ => rfl); ((simp [maxLen]; omega)); ((simp; omega)); intro c' S2 t1 g1 g2 g3 g4; replace g2 : Fr S1 S2 t1 := g2; replace g4 : c = .sl 1 (out.map fun x => Sv x) (some t1) ∨ S1.length ≤ t1 := g4) | (apply zz (i := frm) (j := a); (iterate 4 exact rfl); exact hfa; omega))
        apply qa
        refine qc [6] (by kernel_rfl) rfl ⟨⟨_, rfl, ?_⟩, trivial⟩
        (apply qj; (iterate 9 exact rfl))
        apply qa
        refine qc [7] (by kernel_rfl) rfl ⟨⟨_, rfl, ?_⟩, trivial⟩
        (first | (apply ql (b := st.length + 4) (xs := out.map fun x => Sv x) (ys := [Sv ((text.take a).drop frm)]) (bytes := 16);  (iterate 5 exact rfl); exact ⟨⟨_, _, rfl, rfl, rfl, rfl, rfl⟩⟩; exact hi1.tip; (exact hSle); (first | exact rfl | exact qy fun _ => rfl); ((simp [maxLen]; omega)); ((simp; omega)); intro c' S2 t1 g1 g2 g3 g4; replace g2 : Fr S1 S2 t1 := g2; replace g4 : c = .sl 1 (out.map fun x => Sv x) (some t1) ∨ S1.length ≤ t1 := g4) | (apply zz (i := frm) (j := a); (iterate 4 exact rfl); exact hfa; omega))
        apply qa
        refine qc [8] (by kernel_rfl) rfl ⟨⟨_, rfl, ?_⟩, trivial⟩
        (apply qm; exact rfl; exact rfl; exact qu g2 g4 hi1.tip c1 (qw rfl); exact rfl; exact kf g1; exact jt g1; exact rfl; exact ke g1; exact rfl)
        apply qa
        refine zj (by kernel_rfl) ?_
        exact ⟨rfl, rfl, rfl, qh (qu g2 g4 hi1.tip hd2 ja) (by omega), qh (qu g2 g4 hi1.tip hf2 (jz hF _ _ rfl)) (by omega), qh (qu g2 g4 hi1.tip hown2 hnt) (by omega), qh (qu g2 g4 hi1.tip hln (qw rfl)) (by omega), qh (qu g2 g4 hi1.tip c2 (qw rfl)) (by omega), c', hi1.app g1 g2 g3 g4⟩
     ·(apply qb; exact rfl; (first | exact c0 | exact c1 | exact c2 | exact hln); exact rfl; exact rfl)
      apply qa
      refine qc [0, 2, 4] (by kernel_rfl) rfl ⟨⟨_, rfl, ?_⟩, ⟨_, rfl, ?_⟩, ⟨_, rfl, ?_⟩, trivial⟩
      ·(apply qb; exact rfl; (first | exact c0 | exact c1 | exact c2 | exact hln); exact rfl; exact rfl)
       apply qa
       refine qc [2, 4] (by kernel_rfl) rfl ⟨⟨_, rfl, ?_⟩, ⟨_, rfl, ?_⟩, trivial⟩
       ·(apply qb; exact rfl; (first | exact c0 | exact c1 | exact c2 | exact hln); exact rfl; exact rfl)
        apply qa
        refine qc [4] (by kernel_rfl) rfl ⟨⟨_, rfl, ?_⟩, trivial⟩
        (apply qb; exact rfl; (first | exact c0 | exact c1 | exact c2 | exact hln); exact rfl; exact rfl)
        apply qa
        refine qc [5] (by kernel_rfl) rfl ⟨⟨_, rfl, ?_⟩, trivial⟩
        (first | (apply ql (b := st.length + 4) (xs := out.map fun x => Sv x) (ys := [Sv ((text.take a).drop frm)]) (bytes := 16);  (iterate 5 exact rfl); exact ⟨⟨_, _, rfl, rfl, rfl, rfl, rfl⟩⟩; exact hi1.tip; (exact hSle); (first | exact rfl | exact qy fun _ => rfl); ((simp [maxLen]; omega)); ((simp; omega)); intro c' S2 t1 g1 g2 g3 g4; replace g2 : Fr S1 S2 t1 := g2; replace g4 : c = .sl 1 (out.map fun x => Sv x) (some t1) ∨ S1.length ≤ t1 := g4) | (apply zz (i := frm) (j := a); (iterate 4 exact rfl); exact hfa; omega))
        apply qa
        refine qc [6] (by kernel_rfl) rfl ⟨⟨_, rfl, ?_⟩, trivial⟩
        (apply qj; (iterate 9 exact rfl))
        apply qa
        refine qc [7] (by kernel_rfl) rfl ⟨⟨_, rfl, ?_⟩, trivial⟩
        (first | (apply ql (b := st.length + 4) (xs := out.map fun x => Sv x) (ys := [Sv ((text.take a).drop frm)]) (bytes := 16);  (iterate 5 exact rfl); exact ⟨⟨_, _, rfl, rfl, rfl, rfl, rfl⟩⟩; exact hi1.tip; (exact hSle); (first | exact rfl | exact qy fun _ => rfl); ((simp [maxLen]; omega)); ((simp; omega)); intro c' S2 t1 g1 g2 g3 g4; replace g2 : Fr S1 S2 t1 := g2; replace g4 : c = .sl 1 (out.map fun x => Sv x) (some t1) ∨ S1.length ≤ t1 := g4) | (apply zz (i := frm) (j := a); (iterate 4 exact rfl); exact hfa; omega))
        apply qa
        refine qc [8] (by kernel_rfl) rfl ⟨⟨_, rfl, ?_⟩, trivial⟩
        (apply qm; exact rfl; exact rfl; exact qu g2 g4 hi1.tip c1 (qw rfl); exact rfl; exact kf g1; exact jt g1; exact rfl; exact ke g1; exact rfl)
        apply qa
        refine zj (by kernel_rfl) ?_
        exact ⟨rfl, rfl, rfl, qh (qu g2 g4 hi1.tip hd2 ja) (by omega), qh (qu g2 g4 hi1.tip hf2 (jz hF _ _ rfl)) (by omega), qh (qu g2 g4 hi1.tip hown2 hnt) (by omega), qh (qu g2 g4 hi1.tip hln (qw rfl)) (by omega), qh (qu g2 g4 hi1.tip c2 (qw rfl)) (by omega), c', hi1.app g1 g2 g3 g4⟩
       ·(apply qb; exact rfl; (first | exact c0 | exact c1 | exact c2 | exact hln); exact rfl; exact rfl)
        apply qa
        refine qc [2] (by kernel_rfl) rfl ⟨⟨_, rfl, ?_⟩, trivial⟩
        (apply qb; exact rfl; (first | exact c0 | exact c1 | exact c2 | exact hln); exact rfl; exact rfl)
        apply qa
        refine qc [5] (by kernel_rfl) rfl ⟨⟨_, rfl, ?_⟩, trivial⟩
        (first | (apply ql (b := st.length + 4) (xs := out.map fun x => Sv x) (ys := [Sv ((text.take a).drop frm)]) (bytes := 16);  (iterate 5 exact rfl); exact ⟨⟨_, _, rfl, rfl, rfl, rfl, rfl⟩⟩; exact hi1.tip; (exact hSle); (first | exact rfl | exact qy fun _ => rfl); ((simp [maxLen]; omega)); ((simp; omega)); intro c' S2 t1 g1 g2 g3 g4; replace g2 : Fr S1 S2 t1 := g2; replace g4 : c = .sl 1 (out.map fun x => Sv x) (some t1) ∨ S1.length ≤ t1 := g4) | (apply zz (i := frm) (j := a); (iterate 4 exact rfl); exact hfa; omega))
        apply qa
        refine qc [6] (by kernel_rfl) rfl ⟨⟨_, rfl, ?_⟩, trivial⟩
        (apply qj; (iterate 9 exact rfl))
        apply qa
        refine qc [7] (by kernel_rfl) rfl ⟨⟨_, rfl, ?_⟩, trivial⟩
        (first | (apply ql (b := st.length + 4) (xs := out.map fun x => Sv x) (ys := [Sv ((text.take a).drop frm)]) (bytes := 16);  (iterate 5 exact rfl); exact ⟨⟨_, _, rfl, rfl, rfl, rfl, rfl⟩⟩; exact hi1.tip; (exact hSle); (first | exact rfl | exact qy fun _ => rfl); ((simp [maxLen]; omega)); ((simp; omega)); intro c' S2 t1 g1 g2 g3 g4; replace g2 : Fr S1 S2 t1 := g2; replace g4 : c = .sl 1 (out.map fun x => Sv x) (some t1) ∨ S1.length ≤ t1 := g4) | (apply zz (i := frm) (j := a); (iterate 4 exact rfl); exact hfa; omega))
        apply qa
        refine qc [8] (by kernel_rfl) rfl ⟨⟨_, rfl, ?_⟩, trivial⟩
        (apply qm; exact rfl; exact rfl; exact qu g2 g4 hi1.tip c1 (qw rfl); exact rfl; exact kf g1; exact jt g1; exact rfl; exact ke g1; exact rfl)
        apply qa
        refine zj (by kernel_rfl) ?_
        exact ⟨rfl, rfl, rfl, qh (qu g2 g4 hi1.tip hd2 ja) (by omega), qh (qu g2 g4 hi1.tip hf2 (jz hF _ _ rfl)) (by omega), qh (qu g2 g4 hi1.tip hown2 hnt) (by omega), qh (qu g2 g4 hi1.tip hln (qw rfl)) (by omega), qh (qu g2 g4 hi1.tip c2 (qw rfl)) (by omega), c', hi1.app g1 g2 g3 g4⟩
      ·(apply qb; exact rfl; (first | exact c0 | exact c1 | exact c2 | exact hln); exact rfl; exact rfl)
       apply qa
       refine qc [0, 4] (by kernel_rfl) rfl ⟨⟨_, rfl, ?_⟩, ⟨_, rfl, ?_⟩, trivial⟩
       ·(apply qb; exact rfl; (first | exact c0 | exact c1 | exact c2 | exact hln); exact rfl; exact rfl)
        apply qa
        refine qc [4] (by kernel_rfl) rfl ⟨⟨_, rfl, ?_⟩, trivial⟩
        (apply qb; exact rfl; (first | exact c0 | exact c1 | exact c2 | exact hln); exact rfl; exact rfl)
        apply qa
        refine qc [5] (by kernel_rfl) rfl ⟨⟨_, rfl, ?_⟩, trivial⟩
        (first | (apply ql (b := st.length + 4) (xs := out.map fun x => Sv x) (ys := [Sv ((text.take a).drop frm)]) (bytes := 16);  (iterate 5 exact rfl); exact ⟨⟨_, _, rfl, rfl, rfl, rfl, rfl⟩⟩; exact hi1.tip; (exact hSle); (first | exact rfl | exact qy fun _ => rfl); ((simp [maxLen]; omega)); ((simp; omega)); intro c' S2 t1 g1 g2 g3 g4; replace g2 : Fr S1 S2 t1 := g2; replace g4 : c = .sl 1 (out.map fun x => Sv x) (some t1) ∨ S1.length ≤ t1 := g4) | (apply zz (i := frm) (j := a); (iterate 4 exact rfl); exact hfa; omega))
        apply qa
        refine qc [6] (by kernel_rfl) rfl ⟨⟨_, rfl, ?_⟩, trivial⟩
        (apply qj; (iterate 9 exact rfl))
        apply qa
        refine qc [7] (by kernel_rfl) rfl ⟨⟨_, rfl, ?_⟩, trivial⟩
        (first | (apply ql (b := st.length + 4) (xs := out.map fun x => Sv x) (ys := [Sv ((text.take a).drop frm)]) (bytes := 16);  (iterate 5 exact rfl); exact ⟨⟨_, _, rfl, rfl, rfl, rfl, rfl⟩⟩; exact hi1.tip; (exact hSle); (first | exact rfl | exact qy fun _ => rfl); ((simp [maxLen]; omega)); ((simp; omega)); intro c' S2 t1 g1 g2 g3 g4; replace g2 : Fr S1 S2 t1 := g2; replace g4 : c = .sl 1 (out.map fun x => Sv x) (some t1) ∨ S1.length ≤ t1 := g4) | (apply zz (i := frm) (j := a); (iterate 4 exact rfl); exact hfa; omega))
        apply qa
        refine qc [8] (by kernel_rfl) rfl ⟨⟨_, rfl, ?_⟩, trivial⟩
        (apply qm; exact rfl; exact rfl; exact qu g2 g4 hi1.tip c1 (qw rfl); exact rfl; exact kf g1; exact jt g1; exact rfl; exact ke g1; exact rfl)
        apply qa
        refine zj (by kernel_rfl) ?_
        exact ⟨rfl, rfl, rfl, qh (qu g2 g4 hi1.tip hd2 ja) (by omega), qh (qu g2 g4 hi1.tip hf2 (jz hF _ _ rfl)) (by omega), qh (qu g2 g4 hi1.tip hown2 hnt) (by omega), qh (qu g2 g4 hi1.tip hln (qw rfl)) (by omega), qh (qu g2 g4 hi1.tip c2 (qw rfl)) (by omega), c', hi1.app g1 g2 g3 g4⟩
       ·(apply qb; exact rfl; (first | exact c0 | exact c1 | exact c2 | exact hln); exact rfl; exact rfl)
        apply qa
        refine qc [0, 5] (by kernel_rfl) rfl ⟨⟨_, rfl, ?_⟩, ⟨_, rfl, ?_⟩, trivial⟩
        ·(apply qb; exact rfl; (first | exact c0 | exact c1 | exact c2 | exact hln); exact rfl; exact rfl)
         apply qa
         refine qc [5] (by kernel_rfl) rfl ⟨⟨_, rfl, ?_⟩, trivial⟩
         (first | (apply ql (b := st.length + 4) (xs := out.map fun x => Sv x) (ys := [Sv ((text.take a).drop frm)]) (bytes := 16);  (iterate 5 exact rfl); exact ⟨⟨_, _, rfl, rfl, rfl, rfl, rfl⟩⟩; exact hi1.tip; (exact hSle); (first | exact rfl | exact qy fun _ => rfl); ((simp [maxLen]; omega)); ((simp; omega)); intro c' S2 t1 g1 g2 g3 g4; replace g2 : Fr S1 S2 t1 := g2; replace g4 : c = .sl 1 (out.map fun x => Sv x) (some t1) ∨ S1.length ≤ t1 := g4) | (apply zz (i := frm) (j := a); (iterate 4 exact rfl); exact hfa; omega))
         apply qa
         refine qc [6] (by kernel_rfl) rfl ⟨⟨_, rfl, ?_⟩, trivial⟩
         (apply qj; (iterate 9 exact rfl))
         apply qa
         refine qc [7] (by kernel_rfl) rfl ⟨⟨_, rfl, ?_⟩, trivial⟩
         (first | (apply ql (b := st.length + 4) (xs := out.map fun x => Sv x) (ys := [Sv ((text.take a).drop frm)]) (bytes := 16);  (iterate 5 exact rfl); exact ⟨⟨_, _, rfl, rfl, rfl, rfl, rfl⟩⟩; exact hi1.tip; (exact hSle); (first | exact rfl | exact qy fun _ => rfl); ((simp [maxLen]; omega)); ((simp; omega)); intro c' S2 t1 g1 g2 g3 g4; replace g2 : Fr S1 S2 t1 := g2; replace g4 : c = .sl 1 (out.map fun x => Sv x) (some t1) ∨ S1.length ≤ t1 := g4) | (apply zz (i := frm) (j := a); (iterate 4 exact rfl); exact hfa; omega))
         apply qa
         refine qc [8] (by kernel_rfl) rfl ⟨⟨_, rfl, ?_⟩, trivial⟩
         (apply qm; exact rfl; exact rfl; exact qu g2 g4 hi1.tip c1 (qw rfl); exact rfl; exact kf g1; exact jt g1; exact rfl; exact ke g1; exact rfl)
         apply qa
         refine zj (by kernel_rfl) ?_
         exact ⟨rfl, rfl, rfl, qh (qu g2 g4 hi1.tip hd2 ja) (by omega), qh (qu g2 g4 hi1.tip hf2 (jz hF _ _ rfl)) (by omega), qh (qu g2 g4 hi1.tip hown2 hnt) (by omega), qh (qu g2 g4 hi1.tip hln (qw rfl)) (by omega), qh (qu g2 g4 hi1.tip c2 (qw rfl)) (by omega), c', hi1.app g1 g2 g3 g4⟩
        ·(first | (apply ql (b := st.length + 4) (xs := out.map fun x => Sv x) (ys := [Sv ((text.take a).drop frm)]) (bytes := 16);  (iterate 5 exact rfl); exact ⟨⟨_, _, rfl, rfl, rfl, rfl, rfl⟩⟩; exact hi1.tip; (exact hSle); (first | exact rfl | exact qy fun _ => rfl); ((simp [maxLen]; omega)); ((simp; omega)); intro c' S2 t1 g1 g2 g3 g4; replace g2 : Fr S1 S2 t1 := g2; replace g4 : c = .sl 1 (out.map fun x => Sv x) (some t1) ∨ S1.length ≤ t1 := g4) | (apply zz (i := frm) (j := a); (iterate 4 exact rfl); exact hfa; omega))
         apply qa
         refine qc [0, 6] (by kernel_rfl) rfl ⟨⟨_, rfl, ?_⟩, ⟨_, rfl, ?_⟩, trivial⟩
         ·(apply qb; exact rfl; (first | exact c0 | exact c1 | exact c2 | exact hln); exact rfl; exact rfl)
          apply qa
          refine qc [6] (by kernel_rfl) rfl ⟨⟨_, rfl, ?_⟩, trivial⟩
          (apply qj; (iterate 9 exact rfl))
          apply qa
          refine qc [7] (by kernel_rfl) rfl ⟨⟨_, rfl, ?_⟩, trivial⟩
          (first | (apply ql (b := st.length + 4) (xs := out.map fun x => Sv x) (ys := [Sv ((text.take a).drop frm)]) (bytes := 16);  (iterate 5 exact rfl); exact ⟨⟨_, _, rfl, rfl, rfl, rfl, rfl⟩⟩; exact hi1.tip; (exact hSle); (first | exact rfl | exact qy fun _ => rfl); ((simp [maxLen]; omega)); ((simp; omega)); intro c' S2 t1 g1 g2 g3 g4; replace g2 : Fr S1 S2 t1 := g2; replace g4 : c = .sl 1 (out.map fun x => Sv x) (some t1) ∨ S1.length ≤ t1 := g4) | (apply zz (i := frm) (j := a); (iterate 4 exact rfl); exact hfa; omega))
          apply qa
          refine qc [8] (by kernel_rfl) rfl ⟨⟨_, rfl, ?_⟩, trivial⟩
          (apply qm; exact rfl; exact rfl; exact qu g2 g4 hi1.tip c1 (qw rfl); exact rfl; exact kf g1; exact jt g1; exact rfl; exact ke g1; exact rfl)
          apply qa
          refine zj (by kernel_rfl) ?_
          exact ⟨rfl, rfl, rfl, qh (qu g2 g4 hi1.tip hd2 ja) (by omega), qh (qu g2 g4 hi1.tip hf2 (jz hF _ _ rfl)) (by omega), qh (qu g2 g4 hi1.tip hown2 hnt) (by omega), qh (qu g2 g4 hi1.tip hln (qw rfl)) (by omega), qh (qu g2 g4 hi1.tip c2 (qw rfl)) (by omega), c', hi1.app g1 g2 g3 g4⟩
         ·(apply qj; (iterate 9 exact rfl))
          apply qa
          refine qc [0] (by kernel_rfl) rfl ⟨⟨_, rfl, ?_⟩, trivial⟩
          (apply qb; exact rfl; (first | exact c0 | exact c1 | exact c2 | exact hln); exact rfl; exact rfl)
          apply qa
          refine qc [7] (by kernel_rfl) rfl ⟨⟨_, rfl, ?_⟩, trivial⟩
          (first | (apply ql (b := st.length + 4) (xs := out.map fun x => Sv x) (ys := [Sv ((text.take a).drop frm)]) (bytes := 16);  (iterate 5 exact rfl); exact ⟨⟨_, _, rfl, rfl, rfl, rfl, rfl⟩⟩; exact hi1.tip; (exact hSle); (first | exact rfl | exact qy fun _ => rfl); ((simp [maxLen]; omega)); ((simp; omega)); intro c' S2 t1 g1 g2 g3 g4; replace g2 : Fr S1 S2 t1 := g2; replace g4 : c = .sl 1 (out.map fun x => Sv x) (some t1) ∨ S1.length ≤ t1 := g4) | (apply zz (i := frm) (j := a); (iterate 4 exact rfl); exact hfa; omega))
          apply qa
          refine qc [8] (by kernel_rfl) rfl ⟨⟨_, rfl, ?_⟩, trivial⟩
          (apply qm; exact rfl; exact rfl; exact qu g2 g4 hi1.tip c1 (qw rfl); exact rfl; exact kf g1; exact jt g1; exact rfl; exact ke g1; exact rfl)
          apply qa
          refine zj (by kernel_rfl) ?_
          exact ⟨rfl, rfl, rfl, qh (qu g2 g4 hi1.tip hd2 ja) (by omega), qh (qu g2 g4 hi1.tip hf2 (jz hF _ _ rfl)) (by omega), qh (qu g2 g4 hi1.tip hown2 hnt) (by omega), qh (qu g2 g4 hi1.tip hln (qw rfl)) (by omega), qh (qu g2 g4 hi1.tip c2 (qw rfl)) (by omega), c', hi1.app g1 g2 g3 g4⟩
      ·(apply qb; exact rfl; (first | exact c0 | exact c1 | exact c2 | exact hln); exact rfl; exact rfl)
       apply qa
       refine qc [0, 2] (by kernel_rfl) rfl ⟨⟨_, rfl, ?_⟩, ⟨_, rfl, ?_⟩, trivial⟩
       ·(apply qb; exact rfl; (first | exact c0 | exact c1 | exact c2 | exact hln); exact rfl; exact rfl)
        apply qa
        refine qc [2] (by kernel_rfl) rfl ⟨⟨_, rfl, ?_⟩, trivial⟩
        (apply qb; exact rfl; (first | exact c0 | exact c1 | exact c2 | exact hln); exact rfl; exact rfl)
        apply qa
        refine qc [5] (by kernel_rfl) rfl ⟨⟨_, rfl, ?_⟩, trivial⟩
        (first | (apply ql (b := st.length + 4) (xs := out.map fun x => Sv x) (ys := [Sv ((text.take a).drop frm)]) (bytes := 16);  (iterate 5 exact rfl); exact ⟨⟨_, _, rfl, rfl, rfl, rfl, rfl⟩⟩; exact hi1.tip; (exact hSle); (first | exact rfl | exact qy fun _ => rfl); ((simp [maxLen]; omega)); ((simp; omega)); intro c' S2 t1 g1 g2 g3 g4; replace g2 : Fr S1 S2 t1 := g2; replace g4 : c = .sl 1 (out.map fun x => Sv x) (some t1) ∨ S1.length ≤ t1 := g4) | (apply zz (i := frm) (j := a); (iterate 4 exact rfl); exact hfa; omega))
        apply qa
        refine qc [6] (by kernel_rfl) rfl ⟨⟨_, rfl, ?_⟩, trivial⟩
        (apply qj; (iterate 9 exact rfl))
        apply qa
        refine qc [7] (by kernel_rfl) rfl ⟨⟨_, rfl, ?_⟩, trivial⟩
        (first | (apply ql (b := st.length + 4) (xs := out.map fun x => Sv x) (ys := [Sv ((text.take a).drop frm)]) (bytes := 16);  (iterate 5 exact rfl); exact ⟨⟨_, _, rfl, rfl, rfl, rfl, rfl⟩⟩; exact hi1.tip; (exact hSle); (first | exact rfl | exact qy fun _ => rfl); ((simp [maxLen]; omega)); ((simp; omega)); intro c' S2 t1 g1 g2 g3 g4; replace g2 : Fr S1 S2 t1 := g2; replace g4 : c = .sl 1 (out.map fun x => Sv x) (some t1) ∨ S1.length ≤ t1 := g4) | (apply zz (i := frm) (j := a); (iterate 4 exact rfl); exact hfa; omega))
        apply qa
        refine qc [8] (by kernel_rfl) rfl ⟨⟨_, rfl, ?_⟩, trivial⟩
        (apply qm; exact rfl; exact rfl; exact qu g2 g4 hi1.tip c1 (qw rfl); exact rfl; exact kf g1; exact jt g1; exact rfl; exact ke g1; exact rfl)
        apply qa
        refine zj (by kernel_rfl) ?_
        exact ⟨rfl, rfl, rfl, qh (qu g2 g4 hi1.tip hd2 ja) (by omega), qh (qu g2 g4 hi1.tip hf2 (jz hF _ _ rfl)) (by omega), qh (qu g2 g4 hi1.tip hown2 hnt) (by omega), qh (qu g2 g4 hi1.tip hln (qw rfl)) (by omega), qh (qu g2 g4 hi1.tip c2 (qw rfl)) (by omega), c', hi1.app g1 g2 g3 g4⟩
       ·(apply qb; exact rfl; (first | exact c0 | exact c1 | exact c2 | exact hln); exact rfl; exact rfl)
        apply qa
        refine qc [0, 5] (by kernel_rfl) rfl ⟨⟨_, rfl, ?_⟩, ⟨_, rfl, ?_⟩, trivial⟩
        ·(apply qb; exact rfl; (first | exact c0 | exact c1 | exact c2 | exact hln); exact rfl; exact rfl)
         apply qa
         refine qc [5] (by kernel_rfl) rfl ⟨⟨_, rfl, ?_⟩, trivial⟩
         (first | (apply ql (b := st.length + 4) (xs := out.map fun x => Sv x) (ys := [Sv ((text.take a).drop frm)]) (bytes := 16);  (iterate 5 exact rfl); exact ⟨⟨_, _, rfl, rfl, rfl, rfl, rfl⟩⟩; exact hi1.tip; (exact hSle); (first | exact rfl | exact qy fun _ => rfl); ((simp [maxLen]; omega)); ((simp; omega)); intro c' S2 t1 g1 g2 g3 g4; replace g2 : Fr S1 S2 t1 := g2; replace g4 : c = .sl 1 (out.map fun x => Sv x) (some t1) ∨ S1.length ≤ t1 := g4) | (apply zz (i := frm) (j := a); (iterate 4 exact rfl); exact hfa; omega))
         apply qa
         refine qc [6] (by kernel_rfl) rfl ⟨⟨_, rfl, ?_⟩, trivial⟩
         (apply qj; (iterate 9 exact rfl))
         apply qa
         refine qc [7] (by kernel_rfl) rfl ⟨⟨_, rfl, ?_⟩, trivial⟩
         (first | (apply ql (b := st.length + 4) (xs := out.map fun x => Sv x) (ys := [Sv ((text.take a).drop frm)]) (bytes := 16);  (iterate 5 exact rfl); exact ⟨⟨_, _, rfl, rfl, rfl, rfl, rfl⟩⟩; exact hi1.tip; (exact hSle); (first | exact rfl | exact qy fun _ => rfl); ((simp [maxLen]; omega)); ((simp; omega)); intro c' S2 t1 g1 g2 g3 g4; replace g2 : Fr S1 S2 t1 := g2; replace g4 : c = .sl 1 (out.map fun x => Sv x) (some t1) ∨ S1.length ≤ t1 := g4) | (apply zz (i := frm) (j := a); (iterate 4 exact rfl); exact hfa; omega))
         apply qa
         refine qc [8] (by kernel_rfl) rfl ⟨⟨_, rfl, ?_⟩, trivial⟩
         (apply qm; exact rfl; exact rfl; exact qu g2 g4 hi1.tip c1 (qw rfl); exact rfl; exact kf g1; exact jt g1; exact rfl; exact ke g1; exact rfl)
         apply qa
         refine zj (by kernel_rfl) ?_
         exact ⟨rfl, rfl, rfl, qh (qu g2 g4 hi1.tip hd2 ja) (by omega), qh (qu g2 g4 hi1.tip hf2 (jz hF _ _ rfl)) (by omega), qh (qu g2 g4 hi1.tip hown2 hnt) (by omega), qh (qu g2 g4 hi1.tip hln (qw rfl)) (by omega), qh (qu g2 g4 hi1.tip c2 (qw rfl)) (by omega), c', hi1.app g1 g2 g3 g4⟩
        ·(first | (apply ql (b := st.length + 4) (xs := out.map fun x => Sv x) (ys := [Sv ((text.take a).drop frm)]) (bytes := 16);  (iterate 5 exact rfl); exact ⟨⟨_, _, rfl, rfl, rfl, rfl, rfl⟩⟩; exact hi1.tip; (exact hSle); (first | exact rfl | exact qy fun _ => rfl); ((simp [maxLen]; omega)); ((simp; omega)); intro c' S2 t1 g1 g2 g3 g4; replace g2 : Fr S1 S2 t1 := g2; replace g4 : c = .sl 1 (out.map fun x => Sv x) (some t1) ∨ S1.length ≤ t1 := g4) | (apply zz (i := frm) (j := a); (iterate 4 exact rfl); exact hfa; omega))
         apply qa
         refine qc [0, 6] (by kernel_rfl) rfl ⟨⟨_, rfl, ?_⟩, ⟨_, rfl, ?_⟩, trivial⟩
         ·(apply qb; exact rfl; (first | exact c0 | exact c1 | exact c2 | exact hln); exact rfl; exact rfl)
          apply qa
          refine qc [6] (by kernel_rfl) rfl ⟨⟨_, rfl, ?_⟩, trivial⟩
          (apply qj; (iterate 9 exact rfl))
          apply qa
          refine qc [7] (by kernel_rfl) rfl ⟨⟨_, rfl, ?_⟩, trivial⟩
          (first | (apply ql (b := st.length + 4) (xs := out.map fun x => Sv x) (ys := [Sv ((text.take a).drop frm)]) (bytes := 16);  (iterate 5 exact rfl); exact ⟨⟨_, _, rfl, rfl, rfl, rfl, rfl⟩⟩; exact hi1.tip; (exact hSle); (first | exact rfl | exact qy fun _ => rfl); ((simp [maxLen]; omega)); ((simp; omega)); intro c' S2 t1 g1 g2 g3 g4; replace g2 : Fr S1 S2 t1 := g2; replace g4 : c = .sl 1 (out.map fun x => Sv x) (some t1) ∨ S1.length ≤ t1 := g4) | (apply zz (i := frm) (j := a); (iterate 4 exact rfl); exact hfa; omega))
          apply qa
          refine qc [8] (by kernel_rfl) rfl ⟨⟨_, rfl, ?_⟩, trivial⟩
          (apply qm; exact rfl; exact rfl; exact qu g2 g4 hi1.tip c1 (qw rfl); exact rfl; exact kf g1; exact jt g1; exact rfl; exact ke g1; exact rfl)
          apply qa
          refine zj (by kernel_rfl) ?_
          exact ⟨rfl, rfl, rfl, qh (qu g2 g4 hi1.tip hd2 ja) (by omega), qh (qu g2 g4 hi1.tip hf2 (jz hF _ _ rfl)) (by omega), qh (qu g2 g4 hi1.tip hown2 hnt) (by omega), qh (qu g2 g4 hi1.tip hln (qw rfl)) (by omega), qh (qu g2 g4 hi1.tip c2 (qw rfl)) (by omega), c', hi1.app g1 g2 g3 g4⟩
         ·(apply qj; (iterate 9 exact rfl))
          apply qa
          refine qc [0] (by kernel_rfl) rfl ⟨⟨_, rfl, ?_⟩, trivial⟩
          (apply qb; exact rfl; (first | exact c0 | exact c1 | exact c2 | exact hln); exact rfl; exact rfl)
          apply qa
          refine qc [7] (by kernel_rfl) rfl ⟨⟨_, rfl, ?_⟩, trivial⟩
          (first | (apply ql (b := st.length + 4) (xs := out.map fun x => Sv x) (ys := [Sv ((text.take a).drop frm)]) (bytes := 16);  (iterate 5 exact rfl); exact ⟨⟨_, _, rfl, rfl, rfl, rfl, rfl⟩⟩; exact hi1.tip; (exact hSle); (first | exact rfl | exact qy fun _ => rfl); ((simp [maxLen]; omega)); ((simp; omega)); intro c' S2 t1 g1 g2 g3 g4; replace g2 : Fr S1 S2 t1 := g2; replace g4 : c = .sl 1 (out.map fun x => Sv x) (some t1) ∨ S1.length ≤ t1 := g4) | (apply zz (i := frm) (j := a); (iterate 4 exact rfl); exact hfa; omega))
          apply qa
          refine qc [8] (by kernel_rfl) rfl ⟨⟨_, rfl, ?_⟩, trivial⟩
          (apply qm; exact rfl; exact rfl; exact qu g2 g4 hi1.tip c1 (qw rfl); exact rfl; exact kf g1; exact jt g1; exact rfl; exact ke g1; exact rfl)
          apply qa
          refine zj (by kernel_rfl) ?_
          exact ⟨rfl, rfl, rfl, qh (qu g2 g4 hi1.tip hd2 ja) (by omega), qh (qu g2 g4 hi1.tip hf2 (jz hF _ _ rfl)) (by omega), qh (qu g2 g4 hi1.tip hown2 hnt) (by omega), qh (qu g2 g4 hi1.tip hln (qw rfl)) (by omega), qh (qu g2 g4 hi1.tip c2 (qw rfl)) (by omega), c', hi1.app g1 g2 g3 g4⟩
     ·(apply qb; exact rfl; (first | exact c0 | exact c1 | exact c2 | exact hln); exact rfl; exact rfl)
      apply qa
      refine qc [0, 1, 4] (by kernel_rfl) rfl ⟨⟨_, rfl, ?_⟩, ⟨_, rfl, ?_⟩, ⟨_, rfl, ?_⟩, trivial⟩
      ·(apply qb; exact rfl; (first | exact c0 | exact c1 | exact c2 | exact hln); exact rfl; exact rfl)
       apply qa
       refine qc [1, 4] (by kernel_rfl) rfl ⟨⟨_, rfl, ?_⟩, ⟨_, rfl, ?_⟩, trivial⟩
       ·(apply qb; exact rfl; (first | exact c0 | exact c1 | exact c2 | exact hln); exact rfl; exact rfl)
        apply qa
        refine qc [4] (by kernel_rfl) rfl ⟨⟨_, rfl, ?_⟩, trivial⟩
        (apply qb; exact rfl; (first | exact c0 | exact c1 | exact c2 | exact hln); exact rfl; exact rfl)
        apply qa
        refine qc [5] (by kernel_rfl) rfl ⟨⟨_, rfl, ?_⟩, trivial⟩
        (first | (apply ql (b := st.length + 4) (xs := out.map fun x => Sv x) (ys := [Sv ((text.take a).drop frm)]) (bytes := 16);  (iterate 5 exact rfl); exact ⟨⟨_, _, rfl, rfl, rfl, rfl, rfl⟩⟩; exact hi1.tip; (exact hSle); (first | exact rfl | exact qy fun _ => rfl); ((simp [maxLen]; omega)); ((simp; omega)); intro c' S2 t1 g1 g2 g3 g4; replace g2 : Fr S1 S2 t1 := g2; replace g4 : c = .sl 1 (out.map fun x => Sv x) (some t1) ∨ S1.length ≤ t1 := g4) | (apply zz (i := frm) (j := a); (iterate 4 exact rfl); exact hfa; omega))
        apply qa
        refine qc [6] (by kernel_rfl) rfl ⟨⟨_, rfl, ?_⟩, trivial⟩
        (apply qj; (iterate 9 exact rfl))
        apply qa
        refine qc [7] (by kernel_rfl) rfl ⟨⟨_, rfl, ?_⟩, trivial⟩
        (first | (apply ql (b := st.length + 4) (xs := out.map fun x => Sv x) (ys := [Sv ((text.take a).drop frm)]) (bytes := 16);  (iterate 5 exact rfl); exact ⟨⟨_, _, rfl, rfl, rfl, rfl, rfl⟩⟩; exact hi1.tip; (exact hSle); (first | exact rfl | exact qy fun _ => rfl); ((simp [maxLen]; omega)); ((simp; omega)); intro c' S2 t1 g1 g2 g3 g4; replace g2 : Fr S1 S2 t1 := g2; replace g4 : c = .sl 1 (out.map fun x => Sv x) (some t1) ∨ S1.length ≤ t1 := g4) | (apply zz (i := frm) (j := a); (iterate 4 exact rfl); exact hfa; omega))
        apply qa
        refine qc [8] (by kernel_rfl) rfl ⟨⟨_, rfl, ?_⟩, trivial⟩
        (apply qm; exact rfl; exact rfl; exact qu g2 g4 hi1.tip c1 (qw rfl); exact rfl; exact kf g1; exact jt g1; exact rfl; exact ke g1; exact rfl)
        apply qa
        refine zj (by kernel_rfl) ?_
        exact ⟨rfl, rfl, rfl, qh (qu g2 g4 hi1.tip hd2 ja) (by omega), qh (qu g2 g4 hi1.tip hf2 (jz hF _ _ rfl)) (by omega), qh (qu g2 g4 hi1.tip hown2 hnt) (by omega), qh (qu g2 g4 hi1.tip hln (qw rfl)) (by omega), qh (qu g2 g4 hi1.tip c2 (qw rfl)) (by omega), c', hi1.app g1 g2 g3 g4⟩
       ·(apply qb; exact rfl; (first | exact c0 | exact c1 | exact c2 | exact hln); exact rfl; exact rfl)
        apply qa
        refine qc [1] (by kernel_rfl) rfl ⟨⟨_, rfl, ?_⟩, trivial⟩
        (apply qb; exact rfl; (first | exact c0 | exact c1 | exact c2 | exact hln); exact rfl; exact rfl)
        apply qa
        refine qc [5] (by kernel_rfl) rfl ⟨⟨_, rfl, ?_⟩, trivial⟩
        (first | (apply ql (b := st.length + 4) (xs := out.map fun x => Sv x) (ys := [Sv ((text.take a).drop frm)]) (bytes := 16);  (iterate 5 exact rfl); exact ⟨⟨_, _, rfl, rfl, rfl, rfl, rfl⟩⟩; exact hi1.tip; (exact hSle); (first | exact rfl | exact qy fun _ => rfl); ((simp [maxLen]; omega)); ((simp; omega)); intro c' S2 t1 g1 g2 g3 g4; replace g2 : Fr S1 S2 t1 := g2; replace g4 : c = .sl 1 (out.map fun x => Sv x) (some t1) ∨ S1.length ≤ t1 := g4) | (apply zz (i := frm) (j := a); (iterate 4 exact rfl); exact hfa; omega))
        apply qa
        refine qc [6] (by kernel_rfl) rfl ⟨⟨_, rfl, ?_⟩, trivial⟩
        (apply qj; (iterate 9 exact rfl))
        apply qa
        refine qc [7] (by kernel_rfl) rfl ⟨⟨_, rfl, ?_⟩, trivial⟩
        (first | (apply ql (b := st.length + 4) (xs := out.map fun x => Sv x) (ys := [Sv ((text.take a).drop frm)]) (bytes := 16);  (iterate 5 exact rfl); exact ⟨⟨_, _, rfl, rfl, rfl, rfl, rfl⟩⟩; exact hi1.tip; (exact hSle); (first | exact rfl | exact qy fun _ => rfl); ((simp [maxLen]; omega)); ((simp; omega)); intro c' S2 t1 g1 g2 g3 g4; replace g2 : Fr S1 S2 t1 := g2; replace g4 : c = .sl 1 (out.map fun x => Sv x) (some t1) ∨ S1.length ≤ t1 := g4) | (apply zz (i := frm) (j := a); (iterate 4 exact rfl); exact hfa; omega))
        apply qa
        refine qc [8] (by kernel_rfl) rfl ⟨⟨_, rfl, ?_⟩, trivial⟩
        (apply qm; exact rfl; exact rfl; exact qu g2 g4 hi1.tip c1 (qw rfl); exact rfl; exact kf g1; exact jt g1; exact rfl; exact ke g1; exact rfl)
        apply qa
        refine zj (by kernel_rfl) ?_
        exact ⟨rfl, rfl, rfl, qh (qu g2 g4 hi1.tip hd2 ja) (by omega), qh (qu g2 g4 hi1.tip hf2 (jz hF _ _ rfl)) (by omega), qh (qu g2 g4 hi1.tip hown2 hnt) (by omega), qh (qu g2 g4 hi1.tip hln (qw rfl)) (by omega), qh (qu g2 g4 hi1.tip c2 (qw rfl)) (by omega), c', hi1.app g1 g2 g3 g4⟩
      ·(apply qb; exact rfl; (first | exact c0 | exact c1 | exact c2 | exact hln); exact rfl; exact rfl)
       apply qa
       refine qc [0, 4] (by kernel_rfl) rfl ⟨⟨_, rfl, ?_⟩, ⟨_, rfl, ?_⟩, trivial⟩
       ·(apply qb; exact rfl; (first | exact c0 | exact c1 | exact c2 | exact hln); exact rfl; exact rfl)
        apply qa
        refine qc [4] (by kernel_rfl) rfl ⟨⟨_, rfl, ?_⟩, trivial⟩
        (apply qb; exact rfl; (first | exact c0 | exact c1 | exact c2 | exact hln); exact rfl; exact rfl)
        apply qa
        refine qc [5] (by kernel_rfl) rfl ⟨⟨_, rfl, ?_⟩, trivial⟩
        (first | (apply ql (b := st.length + 4) (xs := out.map fun x => Sv x) (ys := [Sv ((text.take a).drop frm)]) (bytes := 16);  (iterate 5 exact rfl); exact ⟨⟨_, _, rfl, rfl, rfl, rfl, rfl⟩⟩; exact hi1.tip; (exact hSle); (first | exact rfl | exact qy fun _ => rfl); ((simp [maxLen]; omega)); ((simp; omega)); intro c' S2 t1 g1 g2 g3 g4; replace g2 : Fr S1 S2 t1 := g2; replace g4 : c = .sl 1 (out.map fun x => Sv x) (some t1) ∨ S1.length ≤ t1 := g4) | (apply zz (i := frm) (j := a); (iterate 4 exact rfl); exact hfa; omega))
        apply qa
        refine qc [6] (by kernel_rfl) rfl ⟨⟨_, rfl, ?_⟩, trivial⟩
        (apply qj; (iterate 9 exact rfl))
        apply qa
        refine qc [7] (by kernel_rfl) rfl ⟨⟨_, rfl, ?_⟩, trivial⟩
        (first | (apply ql (b := st.length + 4) (xs := out.map fun x => Sv x) (ys := [Sv ((text.take a).drop frm)]) (bytes := 16);  (iterate 5 exact rfl); exact ⟨⟨_, _, rfl, rfl, rfl, rfl, rfl⟩⟩; exact hi1.tip; (exact hSle); (first | exact rfl | exact qy fun _ => rfl); ((simp [maxLen]; omega)); ((simp; omega)); intro c' S2 t1 g1 g2 g3 g4; replace g2 : Fr S1 S2 t1 := g2; replace g4 : c = .sl 1 (out.map fun x => Sv x) (some t1) ∨ S1.length ≤ t1 := g4) | (apply zz (i := frm) (j := a); (iterate 4 exact rfl); exact hfa; omega))
        apply qa
        refine qc [8] (by kernel_rfl) rfl ⟨⟨_, rfl, ?_⟩, trivial⟩
        (apply qm; exact rfl; exact rfl; exact qu g2 g4 hi1.tip c1 (qw rfl); exact rfl; exact kf g1; exact jt g1; exact rfl; exact ke g1; exact rfl)
        apply qa
        refine zj (by kernel_rfl) ?_
        exact ⟨rfl, rfl, rfl, qh (qu g2 g4 hi1.tip hd2 ja) (by omega), qh (qu g2 g4 hi1.tip hf2 (jz hF _ _ rfl)) (by omega), qh (qu g2 g4 hi1.tip hown2 hnt) (by omega), qh (qu g2 g4 hi1.tip hln (qw rfl)) (by omega), qh (qu g2 g4 hi1.tip c2 (qw rfl)) (by omega), c', hi1.app g1 g2 g3 g4⟩
       ·(apply qb; exact rfl; (first | exact c0 | exact c1 | exact c2 | exact hln); exact rfl; exact rfl)
        apply qa
        refine qc [0, 5] (by kernel_rfl) rfl ⟨⟨_, rfl, ?_⟩, ⟨_, rfl, ?_⟩, trivial⟩
        ·(apply qb; exact rfl; (first | exact c0 | exact c1 | exact c2 | exact hln); exact rfl; exact rfl)
         apply qa
         refine qc [5] (by kernel_rfl) rfl ⟨⟨_, rfl, ?_⟩, trivial⟩
         (first | (apply ql (b := st.length + 4) (xs := out.map fun x => Sv x) (ys := [Sv ((text.take a).drop frm)]) (bytes := 16);  (iterate 5 exact rfl); exact ⟨⟨_, _, rfl, rfl, rfl, rfl, rfl⟩⟩; exact hi1.tip; (exact hSle); (first | exact rfl | exact qy fun _ => rfl); ((simp [maxLen]; omega)); ((simp; omega)); intro c' S2 t1 g1 g2 g3 g4; replace g2 : Fr S1 S2 t1 := g2; replace g4 : c = .sl 1 (out.map fun x => Sv x) (some t1) ∨ S1.length ≤ t1 := g4) | (apply zz (i := frm) (j := a); (iterate 4 exact rfl); exact hfa; omega))
         apply qa
         refine qc [6] (by kernel_rfl) rfl ⟨⟨_, rfl, ?_⟩, trivial⟩
         (apply qj; (iterate 9 exact rfl))
         apply qa
         refine qc [7] (by kernel_rfl) rfl ⟨⟨_, rfl, ?_⟩, trivial⟩
         (first | (apply ql (b := st.length + 4) (xs := out.map fun x => Sv x) (ys := [Sv ((text.take a).drop frm)]) (bytes := 16);  (iterate 5 exact rfl); exact ⟨⟨_, _, rfl, rfl, rfl, rfl, rfl⟩⟩; exact hi1.tip; (exact hSle); (first | exact rfl | exact qy fun _ => rfl); ((simp [maxLen]; omega)); ((simp; omega)); intro c' S2 t1 g1 g2 g3 g4; replace g2 : Fr S1 S2 t1 := g2; replace g4 : c = .sl 1 (out.map fun x => Sv x) (some t1) ∨ S1.length ≤ t1 := g4) | (apply zz (i := frm) (j := a); (iterate 4 exact rfl); exact hfa; omega))
         apply qa
         refine qc [8] (by kernel_rfl) rfl ⟨⟨_, rfl, ?_⟩, trivial⟩
         (apply qm; exact rfl; exact rfl; exact qu g2 g4 hi1.tip c1 (qw rfl); exact rfl; exact kf g1; exact jt g1; exact rfl; exact ke g1; exact rfl)
         apply qa
         refine zj (by kernel_rfl) ?_
         exact ⟨rfl, rfl, rfl, qh (qu g2 g4 hi1.tip hd2 ja) (by omega), qh (qu g2 g4 hi1.tip hf2 (jz hF _ _ rfl)) (by omega), qh (qu g2 g4 hi1.tip hown2 hnt) (by omega), qh (qu g2 g4 hi1.tip hln (qw rfl)) (by omega), qh (qu g2 g4 hi1.tip c2 (qw rfl)) (by omega), c', hi1.app g1 g2 g3 g4⟩
        ·(first | (apply ql (b := st.length + 4) (xs := out.map fun x => Sv x) (ys := [Sv ((text.take a).drop frm)]) (bytes := 16);  (iterate 5 exact rfl); exact ⟨⟨_, _, rfl, rfl, rfl, rfl, rfl⟩⟩; exact hi1.tip; (exact hSle); (first | exact rfl | exact qy fun _ => rfl); ((simp [maxLen]; omega)); ((simp; omega)); intro c' S2 t1 g1 g2 g3 g4; replace g2 : Fr S1 S2 t1 := g2; replace g4 : c = .sl 1 (out.map fun x => Sv x) (some t1) ∨ S1.length ≤ t1 := g4) | (apply zz (i := frm) (j := a); (iterate 4 exact rfl); exact hfa; omega))
         apply qa
         refine qc [0, 6] (by kernel_rfl) rfl ⟨⟨_, rfl, ?_⟩, ⟨_, rfl, ?_⟩, trivial⟩
         ·(apply qb; exact rfl; (first | exact c0 | exact c1 | exact c2 | exact hln); exact rfl; exact rfl)
          apply qa
          refine qc [6] (by kernel_rfl) rfl ⟨⟨_, rfl, ?_⟩, trivial⟩
          (apply qj; (iterate 9 exact rfl))
          apply qa
          refine qc [7] (by kernel_rfl) rfl ⟨⟨_, rfl, ?_⟩, trivial⟩
          (first | (apply ql (b := st.length + 4) (xs := out.map fun x => Sv x) (ys := [Sv ((text.take a).drop frm)]) (bytes := 16);  (iterate 5 exact rfl); exact ⟨⟨_, _, rfl, rfl, rfl, rfl, rfl⟩⟩; exact hi1.tip; (exact hSle); (first | exact rfl | exact qy fun _ => rfl); ((simp [maxLen]; omega)); ((simp; omega)); intro c' S2 t1 g1 g2 g3 g4; replace g2 : Fr S1 S2 t1 := g2; replace g4 : c = .sl 1 (out.map fun x => Sv x) (some t1) ∨ S1.length ≤ t1 := g4) | (apply zz (i := frm) (j := a); (iterate 4 exact rfl); exact hfa; omega))
          apply qa
          refine qc [8] (by kernel_rfl) rfl ⟨⟨_, rfl, ?_⟩, trivial⟩
          (apply qm; exact rfl; exact rfl; exact qu g2 g4 hi1.tip c1 (qw rfl); exact rfl; exact kf g1; exact jt g1; exact rfl; exact ke g1; exact rfl)
          apply qa
          refine zj (by kernel_rfl) ?_
          exact ⟨rfl, rfl, rfl, qh (qu g2 g4 hi1.tip hd2 ja) (by omega), qh (qu g2 g4 hi1.tip hf2 (jz hF _ _ rfl)) (by omega), qh (qu g2 g4 hi1.tip hown2 hnt) (by omega), qh (qu g2 g4 hi1.tip hln (qw rfl)) (by omega), qh (qu g2 g4 hi1.tip c2 (qw rfl)) (by omega), c', hi1.app g1 g2 g3 g4⟩
         ·(apply qj; (iterate 9 exact rfl))
          apply qa
          refine qc [0] (by kernel_rfl) rfl ⟨⟨_, rfl, ?_⟩, trivial⟩
          (apply qb; exact rfl; (first | exact c0 | exact c1 | exact c2 | exact hln); exact rfl; exact rfl)
          apply qa
          refine qc [7] (by kernel_rfl) rfl ⟨⟨_, rfl, ?_⟩, trivial⟩
          (first | (apply ql (b := st.length + 4) (xs := out.map fun x => Sv x) (ys := [Sv ((text.take a).drop frm)]) (bytes := 16);  (iterate 5 exact rfl); exact ⟨⟨_, _, rfl, rfl, rfl, rfl, rfl⟩⟩; exact hi1.tip; (exact hSle); (first | exact rfl | exact qy fun _ => rfl); ((simp [maxLen]; omega)); ((simp; omega)); intro c' S2 t1 g1 g2 g3 g4; replace g2 : Fr S1 S2 t1 := g2; replace g4 : c = .sl 1 (out.map fun x => Sv x) (some t1) ∨ S1.length ≤ t1 := g4) | (apply zz (i := frm) (j := a); (iterate 4 exact rfl); exact hfa; omega))
          apply qa
          refine qc [8] (by kernel_rfl) rfl ⟨⟨_, rfl, ?_⟩, trivial⟩
          (apply qm; exact rfl; exact rfl; exact qu g2 g4 hi1.tip c1 (qw rfl); exact rfl; exact kf g1; exact jt g1; exact rfl; exact ke g1; exact rfl)
          apply qa
          refine zj (by kernel_rfl) ?_
          exact ⟨rfl, rfl, rfl, qh (qu g2 g4 hi1.tip hd2 ja) (by omega), qh (qu g2 g4 hi1.tip hf2 (jz hF _ _ rfl)) (by omega), qh (qu g2 g4 hi1.tip hown2 hnt) (by omega), qh (qu g2 g4 hi1.tip hln (qw rfl)) (by omega), qh (qu g2 g4 hi1.tip c2 (qw rfl)) (by omega), c', hi1.app g1 g2 g3 g4⟩
      ·(apply qb; exact rfl; (first | exact c0 | exact c1 | exact c2 | exact hln); exact rfl; exact rfl)
       apply qa
       refine qc [0, 1] (by kernel_rfl) rfl ⟨⟨_, rfl, ?_⟩, ⟨_, rfl, ?_⟩, trivial⟩
       ·(apply qb; exact rfl; (first | exact c0 | exact c1 | exact c2 | exact hln); exact rfl; exact rfl)
        apply qa
        refine qc [1] (by kernel_rfl) rfl ⟨⟨_, rfl, ?_⟩, trivial⟩
        (apply qb; exact rfl; (first | exact c0 | exact c1 | exact c2 | exact hln); exact rfl; exact rfl)
        apply qa
        refine qc [5] (by kernel_rfl) rfl ⟨⟨_, rfl, ?_⟩, trivial⟩
        (first | (apply ql (b := st.length + 4) (xs := out.map fun x => Sv x) (ys := [Sv ((text.take a).drop frm)]) (bytes := 16);  (iterate 5 exact rfl); exact ⟨⟨_, _, rfl, rfl, rfl, rfl, rfl⟩⟩; exact hi1.tip; (exact hSle); (first | exact rfl | exact qy fun _ => rfl); ((simp [maxLen]; omega)); ((simp; omega)); intro c' S2 t1 g1 g2 g3 g4; replace g2 : Fr S1 S2 t1 := g2; replace g4 : c = .sl 1 (out.map fun x => Sv x) (some t1) ∨ S1.length ≤ t1 := g4) | (apply zz (i := frm) (j := a); (iterate 4 exact rfl); exact hfa; omega))
        apply qa
        refine qc [6] (by kernel_rfl) rfl ⟨⟨_, rfl, ?_⟩, trivial⟩
        (apply qj; (iterate 9 exact rfl))
        apply qa
        refine qc [7] (by kernel_rfl) rfl ⟨⟨_, rfl, ?_⟩, trivial⟩
        (first | (apply ql (b := st.length + 4) (xs := out.map fun x => Sv x) (ys := [Sv ((text.take a).drop frm)]) (bytes := 16);  (iterate 5 exact rfl); exact ⟨⟨_, _, rfl, rfl, rfl, rfl, rfl⟩⟩; exact hi1.tip; (exact hSle); (first | exact rfl | exact qy fun _ => rfl); ((simp [maxLen]; omega)); ((simp; omega)); intro c' S2 t1 g1 g2 g3 g4; replace g2 : Fr S1 S2 t1 := g2; replace g4 : c = .sl 1 (out.map fun x => Sv x) (some t1) ∨ S1.length ≤ t1 := g4) | (apply zz (i := frm) (j := a); (iterate 4 exact rfl); exact hfa; omega))
        apply qa
        refine qc [8] (by kernel_rfl) rfl ⟨⟨_, rfl, ?_⟩, trivial⟩
        (apply qm; exact rfl; exact rfl; exact qu g2 g4 hi1.tip c1 (qw rfl); exact rfl; exact kf g1; exact jt g1; exact rfl; exact ke g1; exact rfl)
        apply qa
        refine zj (by kernel_rfl) ?_
        exact ⟨rfl, rfl, rfl, qh (qu g2 g4 hi1.tip hd2 ja) (by omega), qh (qu g2 g4 hi1.tip hf2 (jz hF _ _ rfl)) (by omega), qh (qu g2 g4 hi1.tip hown2 hnt) (by omega), qh (qu g2 g4 hi1.tip hln (qw rfl)) (by omega), qh (qu g2 g4 hi1.tip c2 (qw rfl)) (by omega), c', hi1.app g1 g2 g3 g4⟩
       ·(apply qb; exact rfl; (first | exact c0 | exact c1 | exact c2 | exact hln); exact rfl; exact rfl)
        apply qa
        refine qc [0, 5] (by kernel_rfl) rfl ⟨⟨_, rfl, ?_⟩, ⟨_, rfl, ?_⟩, trivial⟩
        ·(apply qb; exact rfl; (first | exact c0 | exact c1 | exact c2 | exact hln); exact rfl; exact rfl)
         apply qa
         refine qc [5] (by kernel_rfl) rfl ⟨⟨_, rfl, ?_⟩, trivial⟩
         (first | (apply ql (b := st.length + 4) (xs := out.map fun x => Sv x) (ys := [Sv ((text.take a).drop frm)]) (bytes := 16);  (iterate 5 exact rfl); exact ⟨⟨_, _, rfl, rfl, rfl, rfl, rfl⟩⟩; exact hi1.tip; (exact hSle); (first | exact rfl | exact qy fun _ => rfl); ((simp [maxLen]; omega)); ((simp; omega)); intro c' S2 t1 g1 g2 g3 g4; replace g2 : Fr S1 S2 t1 := g2; replace g4 : c = .sl 1 (out.map fun x => Sv x) (some t1) ∨ S1.length ≤ t1 := g4) | (apply zz (i := frm) (j := a); (iterate 4 exact rfl); exact hfa; omega))
         apply qa
         refine qc [6] (by kernel_rfl) rfl ⟨⟨_, rfl, ?_⟩, trivial⟩
         (apply qj; (iterate 9 exact rfl))
         apply qa
         refine qc [7] (by kernel_rfl) rfl ⟨⟨_, rfl, ?_⟩, trivial⟩
         (first | (apply ql (b := st.length + 4) (xs := out.map fun x => Sv x) (ys := [Sv ((text.take a).drop frm)]) (bytes := 16);  (iterate 5 exact rfl); exact ⟨⟨_, _, rfl, rfl, rfl, rfl, rfl⟩⟩; exact hi1.tip; (exact hSle); (first | exact rfl | exact qy fun _ => rfl); ((simp [maxLen]; omega)); ((simp; omega)); intro c' S2 t1 g1 g2 g3 g4; replace g2 : Fr S1 S2 t1 := g2; replace g4 : c = .sl 1 (out.map fun x => Sv x) (some t1) ∨ S1.length ≤ t1 := g4) | (apply zz (i := frm) (j := a); (iterate 4 exact rfl); exact hfa; omega))
         apply qa
         refine qc [8] (by kernel_rfl) rfl ⟨⟨_, rfl, ?_⟩, trivial⟩
         (apply qm; exact rfl; exact rfl; exact qu g2 g4 hi1.tip c1 (qw rfl); exact rfl; exact kf g1; exact jt g1; exact rfl; exact ke g1; exact rfl)
         apply qa
         refine zj (by kernel_rfl) ?_
         exact ⟨rfl, rfl, rfl, qh (qu g2 g4 hi1.tip hd2 ja) (by omega), qh (qu g2 g4 hi1.tip hf2 (jz hF _ _ rfl)) (by omega), qh (qu g2 g4 hi1.tip hown2 hnt) (by omega), qh (qu g2 g4 hi1.tip hln (qw rfl)) (by omega), qh (qu g2 g4 hi1.tip c2 (qw rfl)) (by omega), c', hi1.app g1 g2 g3 g4⟩
        ·(first | (apply ql (b := st.length + 4) (xs := out.map fun x => Sv x) (ys := [Sv ((text.take a).drop frm)]) (bytes := 16);  (iterate 5 exact rfl); exact ⟨⟨_, _, rfl, rfl, rfl, rfl, rfl⟩⟩; exact hi1.tip; (exact hSle); (first | exact rfl | exact qy fun _ => rfl); ((simp [maxLen]; omega)); ((simp; omega)); intro c' S2 t1 g1 g2 g3 g4; replace g2 : Fr S1 S2 t1 := g2; replace g4 : c = .sl 1 (out.map fun x => Sv x) (some t1) ∨ S1.length ≤ t1 := g4) | (apply zz (i := frm) (j := a); (iterate 4 exact rfl); exact hfa; omega))
         apply qa
         refine qc [0, 6] (by kernel_rfl) rfl ⟨⟨_, rfl, ?_⟩, ⟨_, rfl, ?_⟩, trivial⟩
         ·(apply qb; exact rfl; (first | exact c0 | exact c1 | exact c2 | exact hln); exact rfl; exact rfl)
          apply qa
          refine qc [6] (by kernel_rfl) rfl ⟨⟨_, rfl, ?_⟩, trivial⟩
          (apply qj; (iterate 9 exact rfl))
          apply qa
          refine qc [7] (by kernel_rfl) rfl ⟨⟨_, rfl, ?_⟩, trivial⟩
          (first | (apply ql (b := st.length + 4) (xs := out.map fun x => Sv x) (ys := [Sv ((text.take a).drop frm)]) (bytes := 16);  (iterate 5 exact rfl); exact ⟨⟨_, _, rfl, rfl, rfl, rfl, rfl⟩⟩; exact hi1.tip; (exact hSle); (first | exact rfl | exact qy fun _ => rfl); ((simp [maxLen]; omega)); ((simp; omega)); intro c' S2 t1 g1 g2 g3 g4; replace g2 : Fr S1 S2 t1 := g2; replace g4 : c = .sl 1 (out.map fun x => Sv x) (some t1) ∨ S1.length ≤ t1 := g4) | (apply zz (i := frm) (j := a); (iterate 4 exact rfl); exact hfa; omega))
          apply qa
          refine qc [8] (by kernel_rfl) rfl ⟨⟨_, rfl, ?_⟩, trivial⟩
          (apply qm; exact rfl; exact rfl; exact qu g2 g4 hi1.tip c1 (qw rfl); exact rfl; exact kf g1; exact jt g1; exact rfl; exact ke g1; exact rfl)
          apply qa
          refine zj (by kernel_rfl) ?_
          exact ⟨rfl, rfl, rfl, qh (qu g2 g4 hi1.tip hd2 ja) (by omega), qh (qu g2 g4 hi1.tip hf2 (jz hF _ _ rfl)) (by omega), qh (qu g2 g4 hi1.tip hown2 hnt) (by omega), qh (qu g2 g4 hi1.tip hln (qw rfl)) (by omega), qh (qu g2 g4 hi1.tip c2 (qw rfl)) (by omega), c', hi1.app g1 g2 g3 g4⟩
         ·(apply qj; (iterate 9 exact rfl))
          apply qa
          refine qc [0] (by kernel_rfl) rfl ⟨⟨_, rfl, ?_⟩, trivial⟩
          (apply qb; exact rfl; (first | exact c0 | exact c1 | exact c2 | exact hln); exact rfl; exact rfl)
          apply qa
          refine qc [7] (by kernel_rfl) rfl ⟨⟨_, rfl, ?_⟩, trivial⟩
          (first | (apply ql (b := st.length + 4) (xs := out.map fun x => Sv x) (ys := [Sv ((text.take a).drop frm)]) (bytes := 16);  (iterate 5 exact rfl); exact ⟨⟨_, _, rfl, rfl, rfl, rfl, rfl⟩⟩; exact hi1.tip; (exact hSle); (first | exact rfl | exact qy fun _ => rfl); ((simp [maxLen]; omega)); ((simp; omega)); intro c' S2 t1 g1 g2 g3 g4; replace g2 : Fr S1 S2 t1 := g2; replace g4 : c = .sl 1 (out.map fun x => Sv x) (some t1) ∨ S1.length ≤ t1 := g4) | (apply zz (i := frm) (j := a); (iterate 4 exact rfl); exact hfa; omega))
          apply qa
          refine qc [8] (by kernel_rfl) rfl ⟨⟨_, rfl, ?_⟩, trivial⟩
          (apply qm; exact rfl; exact rfl; exact qu g2 g4 hi1.tip c1 (qw rfl); exact rfl; exact kf g1; exact jt g1; exact rfl; exact ke g1; exact rfl)
          apply qa
          refine zj (by kernel_rfl) ?_
          exact ⟨rfl, rfl, rfl, qh (qu g2 g4 hi1.tip hd2 ja) (by omega), qh (qu g2 g4 hi1.tip hf2 (jz hF _ _ rfl)) (by omega), qh (qu g2 g4 hi1.tip hown2 hnt) (by omega), qh (qu g2 g4 hi1.tip hln (qw rfl)) (by omega), qh (qu g2 g4 hi1.tip c2 (qw rfl)) (by omega), c', hi1.app g1 g2 g3 g4⟩
     ·(apply qb; exact rfl; (first | exact c0 | exact c1 | exact c2 | exact hln); exact rfl; exact rfl)
      apply qa
      refine qc [0, 1, 2] (by kernel_rfl) rfl ⟨⟨_, rfl, ?_⟩, ⟨_, rfl, ?_⟩, ⟨_, rfl, ?_⟩, trivial⟩
      ·(apply qb; exact rfl; (first | exact c0 | exact c1 | exact c2 | exact hln); exact rfl; exact rfl)
       apply qa
       refine qc [1, 2] (by kernel_rfl) rfl ⟨⟨_, rfl, ?_⟩, ⟨_, rfl, ?_⟩, trivial⟩
       ·(apply qb; exact rfl; (first | exact c0 | exact c1 | exact c2 | exact hln); exact rfl; exact rfl)
        apply qa
        refine qc [2] (by kernel_rfl) rfl ⟨⟨_, rfl, ?_⟩, trivial⟩
        (apply qb; exact rfl; (first | exact c0 | exact c1 | exact c2 | exact hln); exact rfl; exact rfl)
        apply qa
        refine qc [5] (by kernel_rfl) rfl ⟨⟨_, rfl, ?_⟩, trivial⟩
        (first | (apply ql (b := st.length + 4) (xs := out.map fun x => Sv x) (ys := [Sv ((text.take a).drop frm)]) (bytes := 16);  (iterate 5 exact rfl); exact ⟨⟨_, _, rfl, rfl, rfl, rfl, rfl⟩⟩; exact hi1.tip; (exact hSle); (first | exact rfl | exact qy fun _ => rfl); ((simp [maxLen]; omega)); ((simp; omega)); intro c' S2 t1 g1 g2 g3 g4; replace g2 : Fr S1 S2 t1 := g2; replace g4 : c = .sl 1 (out.map fun x => Sv x) (some t1) ∨ S1.length ≤ t1 := g4) | (apply zz (i := frm) (j := a); (iterate 4 exact rfl); exact hfa; omega))
        apply qa
        refine qc [6] (by kernel_rfl) rfl ⟨⟨_, rfl, ?_⟩, trivial⟩
        (apply qj; (iterate 9 exact rfl))
        apply qa
        refine qc [7] (by kernel_rfl) rfl ⟨⟨_, rfl, ?_⟩, trivial⟩
        (first | (apply ql (b := st.length + 4) (xs := out.map fun x => Sv x) (ys := [Sv ((text.take a).drop frm)]) (bytes := 16);  (iterate 5 exact rfl); exact ⟨⟨_, _, rfl, rfl, rfl, rfl, rfl⟩⟩; exact hi1.tip; (exact hSle); (first | exact rfl | exact qy fun _ => rfl); ((simp [maxLen]; omega)); ((simp; omega)); intro c' S2 t1 g1 g2 g3 g4; replace g2 : Fr S1 S2 t1 := g2; replace g4 : c = .sl 1 (out.map fun x => Sv x) (some t1) ∨ S1.length ≤ t1 := g4) | (apply zz (i := frm) (j := a); (iterate 4 exact rfl); exact hfa; omega))
        apply qa
        refine qc [8] (by kernel_rfl) rfl ⟨⟨_, rfl, ?_⟩, trivial⟩
        (apply qm; exact rfl; exact rfl; exact qu g2 g4 hi1.tip c1 (qw rfl); exact rfl; exact kf g1; exact jt g1; exact rfl; exact ke g1; exact rfl)
        apply qa
        refine zj (by kernel_rfl) ?_
        exact ⟨rfl, rfl, rfl, qh (qu g2 g4 hi1.tip hd2 ja) (by omega), qh (qu g2 g4 hi1.tip hf2 (jz hF _ _ rfl)) (by omega), qh (qu g2 g4 hi1.tip hown2 hnt) (by omega), qh (qu g2 g4 hi1.tip hln (qw rfl)) (by omega), qh (qu g2 g4 hi1.tip c2 (qw rfl)) (by omega), c', hi1.app g1 g2 g3 g4⟩
       ·(apply qb; exact rfl; (first | exact c0 | exact c1 | exact c2 | exact hln); exact rfl; exact rfl)
        apply qa
        refine qc [1] (by kernel_rfl) rfl ⟨⟨_, rfl, ?_⟩, trivial⟩
        (apply qb; exact rfl; (first | exact c0 | exact c1 | exact c2 | exact hln); exact rfl; exact rfl)
        apply qa
        refine qc [5] (by kernel_rfl) rfl ⟨⟨_, rfl, ?_⟩, trivial⟩
        (first | (apply ql (b := st.length + 4) (xs := out.map fun x => Sv x) (ys := [Sv ((text.take a).drop frm)]) (bytes := 16);  (iterate 5 exact rfl); exact ⟨⟨_, _, rfl, rfl, rfl, rfl, rfl⟩⟩; exact hi1.tip; (exact hSle); (first | exact rfl | exact qy fun _ => rfl); ((simp [maxLen]; omega)); ((simp; omega)); intro c' S2 t1 g1 g2 g3 g4; replace g2 : Fr S1 S2 t1 := g2; replace g4 : c = .sl 1 (out.map fun x => Sv x) (some t1) ∨ S1.length ≤ t1 := g4) | (apply zz (i := frm) (j := a); (iterate 4 exact rfl); exact hfa; omega))
        apply qa
        refine qc [6] (by kernel_rfl) rfl ⟨⟨_, rfl, ?_⟩, trivial⟩
        (apply qj; (iterate 9 exact rfl))
        apply qa
        refine qc [7] (by kernel_rfl) rfl ⟨⟨_, rfl, ?_⟩, trivial⟩
        (first | (apply ql (b := st.length + 4) (xs := out.map fun x => Sv x) (ys := [Sv ((text.take a).drop frm)]) (bytes := 16);  (iterate 5 exact rfl); exact ⟨⟨_, _, rfl, rfl, rfl, rfl, rfl⟩⟩; exact hi1.tip; (exact hSle); (first | exact rfl | exact qy fun _ => rfl); ((simp [maxLen]; omega)); ((simp; omega)); intro c' S2 t1 g1 g2 g3 g4; replace g2 : Fr S1 S2 t1 := g2; replace g4 : c = .sl 1 (out.map fun x => Sv x) (some t1) ∨ S1.length ≤ t1 := g4) | (apply zz (i := frm) (j := a); (iterate 4 exact rfl); exact hfa; omega))
        apply qa
        refine qc [8] (by kernel_rfl) rfl ⟨⟨_, rfl, ?_⟩, trivial⟩
        (apply qm; exact rfl; exact rfl; exact qu g2 g4 hi1.tip c1 (qw rfl); exact rfl; exact kf g1; exact jt g1; exact rfl; exact ke g1; exact rfl)
        apply qa
        refine zj (by kernel_rfl) ?_
        exact ⟨rfl, rfl, rfl, qh (qu g2 g4 hi1.tip hd2 ja) (by omega), qh (qu g2 g4 hi1.tip hf2 (jz hF _ _ rfl)) (by omega), qh (qu g2 g4 hi1.tip hown2 hnt) (by omega), qh (qu g2 g4 hi1.tip hln (qw rfl)) (by omega), qh (qu g2 g4 hi1.tip c2 (qw rfl)) (by omega), c', hi1.app g1 g2 g3 g4⟩
      ·(apply qb; exact rfl; (first | exact c0 | exact c1 | exact c2 | exact hln); exact rfl; exact rfl)
       apply qa
       refine qc [0, 2] (by kernel_rfl) rfl ⟨⟨_, rfl, ?_⟩, ⟨_, rfl, ?_⟩, trivial⟩
       ·(apply qb; exact rfl; (first | exact c0 | exact c1 | exact c2 | exact hln); exact rfl; exact rfl)
        apply qa
        refine qc [2] (by kernel_rfl) rfl ⟨⟨_, rfl, ?_⟩, trivial⟩
        (apply qb; exact rfl; (first | exact c0 | exact c1 | exact c2 | exact hln); exact rfl; exact rfl)
        apply qa
        refine qc [5] (by kernel_rfl) rfl ⟨⟨_, rfl, ?_⟩, trivial⟩
        (first | (apply ql (b := st.length + 4) (xs := out.map fun x => Sv x) (ys := [Sv ((text.take a).drop frm)]) (bytes := 16);  (iterate 5 exact rfl); exact ⟨⟨_, _, rfl, rfl, rfl, rfl, rfl⟩⟩; exact hi1.tip; (exact hSle); (first | exact rfl | exact qy fun _ => rfl); ((simp [maxLen]; omega)); ((simp; omega)); intro c' S2 t1 g1 g2 g3 g4; replace g2 : Fr S1 S2 t1 := g2; replace g4 : c = .sl 1 (out.map fun x => Sv x) (some t1) ∨ S1.length ≤ t1 := g4) | (apply zz (i := frm) (j := a); (iterate 4 exact rfl); exact hfa; omega))
        apply qa
        refine qc [6] (by kernel_rfl) rfl ⟨⟨_, rfl, ?_⟩, trivial⟩
        (apply qj; (iterate 9 exact rfl))
        apply qa
        refine qc [7] (by kernel_rfl) rfl ⟨⟨_, rfl, ?_⟩, trivial⟩
        (first | (apply ql (b := st.length + 4) (xs := out.map fun x => Sv x) (ys := [Sv ((text.take a).drop frm)]) (bytes := 16);  (iterate 5 exact rfl); exact ⟨⟨_, _, rfl, rfl, rfl, rfl, rfl⟩⟩; exact hi1.tip; (exact hSle); (first | exact rfl | exact qy fun _ => rfl); ((simp [maxLen]; omega)); ((simp; omega)); intro c' S2 t1 g1 g2 g3 g4; replace g2 : Fr S1 S2 t1 := g2; replace g4 : c = .sl 1 (out.map fun x => Sv x) (some t1) ∨ S1.length ≤ t1 := g4) | (apply zz (i := frm) (j := a); (iterate 4 exact rfl); exact hfa; omega))
        apply qa
        refine qc [8] (by kernel_rfl) rfl ⟨⟨_, rfl, ?_⟩, trivial⟩
        (apply qm; exact rfl; exact rfl; exact qu g2 g4 hi1.tip c1 (qw rfl); exact rfl; exact kf g1; exact jt g1; exact rfl; exact ke g1; exact rfl)
        apply qa
        refine zj (by kernel_rfl) ?_
        exact ⟨rfl, rfl, rfl, qh (qu g2 g4 hi1.tip hd2 ja) (by omega), qh (qu g2 g4 hi1.tip hf2 (jz hF _ _ rfl)) (by omega), qh (qu g2 g4 hi1.tip hown2 hnt) (by omega), qh (qu g2 g4 hi1.tip hln (qw rfl)) (by omega), qh (qu g2 g4 hi1.tip c2 (qw rfl)) (by omega), c', hi1.app g1 g2 g3 g4⟩
       ·(apply qb; exact rfl; (first | exact c0 | exact c1 | exact c2 | exact hln); exact rfl; exact rfl)
        apply qa
        refine qc [0, 5] (by kernel_rfl) rfl ⟨⟨_, rfl, ?_⟩, ⟨_, rfl, ?_⟩, trivial⟩
        ·(apply qb; exact rfl; (first | exact c0 | exact c1 | exact c2 | exact hln); exact rfl; exact rfl)
         apply qa
         refine qc [5] (by kernel_rfl) rfl ⟨⟨_, rfl, ?_⟩, trivial⟩
         (first | (apply ql (b := st.length + 4) (xs := out.map fun x => Sv x) (ys := [Sv ((text.take a).drop frm)]) (bytes := 16);  (iterate 5 exact rfl); exact ⟨⟨_, _, rfl, rfl, rfl, rfl, rfl⟩⟩; exact hi1.tip; (exact hSle); (first | exact rfl | exact qy fun _ => rfl); ((simp [maxLen]; omega)); ((simp; omega)); intro c' S2 t1 g1 g2 g3 g4; replace g2 : Fr S1 S2 t1 := g2; replace g4 : c = .sl 1 (out.map fun x => Sv x) (some t1) ∨ S1.length ≤ t1 := g4) | (apply zz (i := frm) (j := a); (iterate 4 exact rfl); exact hfa; omega))
         apply qa
         refine qc [6] (by kernel_rfl) rfl ⟨⟨_, rfl, ?_⟩, trivial⟩
         (apply qj; (iterate 9 exact rfl))
         apply qa
         refine qc [7] (by kernel_rfl) rfl ⟨⟨_, rfl, ?_⟩, trivial⟩
         (first | (apply ql (b := st.length + 4) (xs := out.map fun x => Sv x) (ys := [Sv ((text.take a).drop frm)]) (bytes := 16);  (iterate 5 exact rfl); exact ⟨⟨_, _, rfl, rfl, rfl, rfl, rfl⟩⟩; exact hi1.tip; (exact hSle); (first | exact rfl | exact qy fun _ => rfl); ((simp [maxLen]; omega)); ((simp; omega)); intro c' S2 t1 g1 g2 g3 g4; replace g2 : Fr S1 S2 t1 := g2; replace g4 : c = .sl 1 (out.map fun x => Sv x) (some t1) ∨ S1.length ≤ t1 := g4) | (apply zz (i := frm) (j := a); (iterate 4 exact rfl); exact hfa; omega))
         apply qa
         refine qc [8] (by kernel_rfl) rfl ⟨⟨_, rfl, ?_⟩, trivial⟩
         (apply qm; exact rfl; exact rfl; exact qu g2 g4 hi1.tip c1 (qw rfl); exact rfl; exact kf g1; exact jt g1; exact rfl; exact ke g1; exact rfl)
         apply qa
         refine zj (by kernel_rfl) ?_
         exact ⟨rfl, rfl, rfl, qh (qu g2 g4 hi1.tip hd2 ja) (by omega), qh (qu g2 g4 hi1.tip hf2 (jz hF _ _ rfl)) (by omega), qh (qu g2 g4 hi1.tip hown2 hnt) (by omega), qh (qu g2 g4 hi1.tip hln (qw rfl)) (by omega), qh (qu g2 g4 hi1.tip c2 (qw rfl)) (by omega), c', hi1.app g1 g2 g3 g4⟩
        ·(first | (apply ql (b := st.length + 4) (xs := out.map fun x => Sv x) (ys := [Sv ((text.take a).drop frm)]) (bytes := 16);  (iterate 5 exact rfl); exact ⟨⟨_, _, rfl, rfl, rfl, rfl, rfl⟩⟩; exact hi1.tip; (exact hSle); (first | exact rfl | exact qy fun _ => rfl); ((simp [maxLen]; omega)); ((simp; omega)); intro c' S2 t1 g1 g2 g3 g4; replace g2 : Fr S1 S2 t1 := g2; replace g4 : c = .sl 1 (out.map fun x => Sv x) (some t1) ∨ S1.length ≤ t1 := g4) | (apply zz (i := frm) (j := a); (iterate 4 exact rfl); exact hfa; omega))
         apply qa
         refine qc [0, 6] (by kernel_rfl) rfl ⟨⟨_, rfl, ?_⟩, ⟨_, rfl, ?_⟩, trivial⟩
         ·(apply qb; exact rfl; (first | exact c0 | exact c1 | exact c2 | exact hln); exact rfl; exact rfl)
          apply qa
          refine qc [6] (by kernel_rfl) rfl ⟨⟨_, rfl, ?_⟩, trivial⟩
          (apply qj; (iterate 9 exact rfl))
          apply qa
          refine qc [7] (by kernel_rfl) rfl ⟨⟨_, rfl, ?_⟩, trivial⟩
          (first | (apply ql (b := st.length + 4) (xs := out.map fun x => Sv x) (ys := [Sv ((text.take a).drop frm)]) (bytes := 16);  (iterate 5 exact rfl); exact ⟨⟨_, _, rfl, rfl, rfl, rfl, rfl⟩⟩; exact hi1.tip; (exact hSle); (first | exact rfl | exact qy fun _ => rfl); ((simp [maxLen]; omega)); ((simp; omega)); intro c' S2 t1 g1 g2 g3 g4; replace g2 : Fr S1 S2 t1 := g2; replace g4 : c = .sl 1 (out.map fun x => Sv x) (some t1) ∨ S1.length ≤ t1 := g4) | (apply zz (i := frm) (j := a); (iterate 4 exact rfl); exact hfa; omega))
          apply qa
          refine qc [8] (by kernel_rfl) rfl ⟨⟨_, rfl, ?_⟩, trivial⟩
          (apply qm; exact rfl; exact rfl; exact qu g2 g4 hi1.tip c1 (qw rfl); exact rfl; exact kf g1; exact jt g1; exact rfl; exact ke g1; exact rfl)
          apply qa
          refine zj (by kernel_rfl) ?_
          exact ⟨rfl, rfl, rfl, qh (qu g2 g4 hi1.tip hd2 ja) (by omega), qh (qu g2 g4 hi1.tip hf2 (jz hF _ _ rfl)) (by omega), qh (qu g2 g4 hi1.tip hown2 hnt) (by omega), qh (qu g2 g4 hi1.tip hln (qw rfl)) (by omega), qh (qu g2 g4 hi1.tip c2 (qw rfl)) (by omega), c', hi1.app g1 g2 g3 g4⟩
         ·(apply qj; (iterate 9 exact rfl))
          apply qa
          refine qc [0] (by kernel_rfl) rfl ⟨⟨_, rfl, ?_⟩, trivial⟩
          (apply qb; exact rfl; (first | exact c0 | exact c1 | exact c2 | exact hln); exact rfl; exact rfl)
          apply qa
          refine qc [7] (by kernel_rfl) rfl ⟨⟨_, rfl, ?_⟩, trivial⟩
          (first | (apply ql (b := st.length + 4) (xs := out.map fun x => Sv x) (ys := [Sv ((text.take a).drop frm)]) (bytes := 16);  (iterate 5 exact rfl); exact ⟨⟨_, _, rfl, rfl, rfl, rfl, rfl⟩⟩; exact hi1.tip; (exact hSle); (first | exact rfl | exact qy fun _ => rfl); ((simp [maxLen]; omega)); ((simp; omega)); intro c' S2 t1 g1 g2 g3 g4; replace g2 : Fr S1 S2 t1 := g2; replace g4 : c = .sl 1 (out.map fun x => Sv x) (some t1) ∨ S1.length ≤ t1 := g4) | (apply zz (i := frm) (j := a); (iterate 4 exact rfl); exact hfa; omega))
          apply qa
          refine qc [8] (by kernel_rfl) rfl ⟨⟨_, rfl, ?_⟩, trivial⟩
          (apply qm; exact rfl; exact rfl; exact qu g2 g4 hi1.tip c1 (qw rfl); exact rfl; exact kf g1; exact jt g1; exact rfl; exact ke g1; exact rfl)
          apply qa
          refine zj (by kernel_rfl) ?_
          exact ⟨rfl, rfl, rfl, qh (qu g2 g4 hi1.tip hd2 ja) (by omega), qh (qu g2 g4 hi1.tip hf2 (jz hF _ _ rfl)) (by omega), qh (qu g2 g4 hi1.tip hown2 hnt) (by omega), qh (qu g2 g4 hi1.tip hln (qw rfl)) (by omega), qh (qu g2 g4 hi1.tip c2 (qw rfl)) (by omega), c', hi1.app g1 g2 g3 g4⟩
      ·(apply qb; exact rfl; (first | exact c0 | exact c1 | exact c2 | exact hln); exact rfl; exact rfl)
       apply qa
       refine qc [0, 1] (by kernel_rfl) rfl ⟨⟨_, rfl, ?_⟩, ⟨_, rfl, ?_⟩, trivial⟩
       ·(apply qb; exact rfl; (first | exact c0 | exact c1 | exact c2 | exact hln); exact rfl; exact rfl)
        apply qa
        refine qc [1] (by kernel_rfl) rfl ⟨⟨_, rfl, ?_⟩, trivial⟩
        (apply qb; exact rfl; (first | exact c0 | exact c1 | exact c2 | exact hln); exact rfl; exact rfl)
        apply qa
        refine qc [5] (by kernel_rfl) rfl ⟨⟨_, rfl, ?_⟩, trivial⟩
        (first | (apply ql (b := st.length + 4) (xs := out.map fun x => Sv x) (ys := [Sv ((text.take a).drop frm)]) (bytes := 16);  (iterate 5 exact rfl); exact ⟨⟨_, _, rfl, rfl, rfl, rfl, rfl⟩⟩; exact hi1.tip; (exact hSle); (first | exact rfl | exact qy fun _ => rfl); ((simp [maxLen]; omega)); ((simp; omega)); intro c' S2 t1 g1 g2 g3 g4; replace g2 : Fr S1 S2 t1 := g2; replace g4 : c = .sl 1 (out.map fun x => Sv x) (some t1) ∨ S1.length ≤ t1 := g4) | (apply zz (i := frm) (j := a); (iterate 4 exact rfl); exact hfa; omega))
        apply qa
        refine qc [6] (by kernel_rfl) rfl ⟨⟨_, rfl, ?_⟩, trivial⟩
        (apply qj; (iterate 9 exact rfl))
        apply qa
        refine qc [7] (by kernel_rfl) rfl ⟨⟨_, rfl, ?_⟩, trivial⟩
        (first | (apply ql (b := st.length + 4) (xs := out.map fun x => Sv x) (ys := [Sv ((text.take a).drop frm)]) (bytes := 16);  (iterate 5 exact rfl); exact ⟨⟨_, _, rfl, rfl, rfl, rfl, rfl⟩⟩; exact hi1.tip; (exact hSle); (first | exact rfl | exact qy fun _ => rfl); ((simp [maxLen]; omega)); ((simp; omega)); intro c' S2 t1 g1 g2 g3 g4; replace g2 : Fr S1 S2 t1 := g2; replace g4 : c = .sl 1 (out.map fun x => Sv x) (some t1) ∨ S1.length ≤ t1 := g4) | (apply zz (i := frm) (j := a); (iterate 4 exact rfl); exact hfa; omega))
        apply qa
        refine qc [8] (by kernel_rfl) rfl ⟨⟨_, rfl, ?_⟩, trivial⟩
        (apply qm; exact rfl; exact rfl; exact qu g2 g4 hi1.tip c1 (qw rfl); exact rfl; exact kf g1; exact jt g1; exact rfl; exact ke g1; exact rfl)
        apply qa
        refine zj (by kernel_rfl) ?_
        exact ⟨rfl, rfl, rfl, qh (qu g2 g4 hi1.tip hd2 ja) (by omega), qh (qu g2 g4 hi1.tip hf2 (jz hF _ _ rfl)) (by omega), qh (qu g2 g4 hi1.tip hown2 hnt) (by omega), qh (qu g2 g4 hi1.tip hln (qw rfl)) (by omega), qh (qu g2 g4 hi1.tip c2 (qw rfl)) (by omega), c', hi1.app g1 g2 g3 g4⟩
       ·(apply qb; exact rfl; (first | exact c0 | exact c1 | exact c2 | exact hln); exact rfl; exact rfl)
        apply qa
        refine qc [0, 5] (by kernel_rfl) rfl ⟨⟨_, rfl, ?_⟩, ⟨_, rfl, ?_⟩, trivial⟩
        ·(apply qb; exact rfl; (first | exact c0 | exact c1 | exact c2 | exact hln); exact rfl; exact rfl)
         apply qa
         refine qc [5] (by kernel_rfl) rfl ⟨⟨_, rfl, ?_⟩, trivial⟩
         (first | (apply ql (b := st.length + 4) (xs := out.map fun x => Sv x) (ys := [Sv ((text.take a).drop frm)]) (bytes := 16);  (iterate 5 exact rfl); exact ⟨⟨_, _, rfl, rfl, rfl, rfl, rfl⟩⟩; exact hi1.tip; (exact hSle); (first | exact rfl | exact qy fun _ => rfl); ((simp [maxLen]; omega)); ((simp; omega)); intro c' S2 t1 g1 g2 g3 g4; replace g2 : Fr S1 S2 t1 := g2; replace g4 : c = .sl 1 (out.map fun x => Sv x) (some t1) ∨ S1.length ≤ t1 := g4) | (apply zz (i := frm) (j := a); (iterate 4 exact rfl); exact hfa; omega))
         apply qa
         refine qc [6] (by kernel_rfl) rfl ⟨⟨_, rfl, ?_⟩, trivial⟩
         (apply qj; (iterate 9 exact rfl))
         apply qa
         refine qc [7] (by kernel_rfl) rfl ⟨⟨_, rfl, ?_⟩, trivial⟩
         (first | (apply ql (b := st.length + 4) (xs := out.map fun x => Sv x) (ys := [Sv ((text.take a).drop frm)]) (bytes := 16);  (iterate 5 exact rfl); exact ⟨⟨_, _, rfl, rfl, rfl, rfl, rfl⟩⟩; exact hi1.tip; (exact hSle); (first | exact rfl | exact qy fun _ => rfl); ((simp [maxLen]; omega)); ((simp; omega)); intro c' S2 t1 g1 g2 g3 g4; replace g2 : Fr S1 S2 t1 := g2; replace g4 : c = .sl 1 (out.map fun x => Sv x) (some t1) ∨ S1.length ≤ t1 := g4) | (apply zz (i := frm) (j := a); (iterate 4 exact rfl); exact hfa; omega))
         apply qa
         refine qc [8] (by kernel_rfl) rfl ⟨⟨_, rfl, ?_⟩, trivial⟩
         (apply qm; exact rfl; exact rfl; exact qu g2 g4 hi1.tip c1 (qw rfl); exact rfl; exact kf g1; exact jt g1; exact rfl; exact ke g1; exact rfl)
         apply qa
         refine zj (by kernel_rfl) ?_
         exact ⟨rfl, rfl, rfl, qh (qu g2 g4 hi1.tip hd2 ja) (by omega), qh (qu g2 g4 hi1.tip hf2 (jz hF _ _ rfl)) (by omega), qh (qu g2 g4 hi1.tip hown2 hnt) (by omega), qh (qu g2 g4 hi1.tip hln (qw rfl)) (by omega), qh (qu g2 g4 hi1.tip c2 (qw rfl)) (by omega), c', hi1.app g1 g2 g3 g4⟩
        ·(first | (apply ql (b := st.length + 4) (xs := out.map fun x => Sv x) (ys := [Sv ((text.take a).drop frm)]) (bytes := 16);  (iterate 5 exact rfl); exact ⟨⟨_, _, rfl, rfl, rfl, rfl, rfl⟩⟩; exact hi1.tip; (exact hSle); (first | exact rfl | exact qy fun _ => rfl); ((simp [maxLen]; omega)); ((simp; omega)); intro c' S2 t1 g1 g2 g3 g4; replace g2 : Fr S1 S2 t1 := g2; replace g4 : c = .sl 1 (out.map fun x => Sv x) (some t1) ∨ S1.length ≤ t1 := g4) | (apply zz (i := frm) (j := a); (iterate 4 exact rfl); exact hfa; omega))
         apply qa
         refine qc [0, 6] (by kernel_rfl) rfl ⟨⟨_, rfl, ?_⟩, ⟨_, rfl, ?_⟩, trivial⟩
         ·(apply qb; exact rfl; (first | exact c0 | exact c1 | exact c2 | exact hln); exact rfl; exact rfl)
          apply qa
          refine qc [6] (by kernel_rfl) rfl ⟨⟨_, rfl, ?_⟩, trivial⟩
          (apply qj; (iterate 9 exact rfl))
          apply qa
          refine qc [7] (by kernel_rfl) rfl ⟨⟨_, rfl, ?_⟩, trivial⟩
          (first | (apply ql (b := st.length + 4) (xs := out.map fun x => Sv x) (ys := [Sv ((text.take a).drop frm)]) (bytes := 16);  (iterate 5 exact rfl); exact ⟨⟨_, _, rfl, rfl, rfl, rfl, rfl⟩⟩; exact hi1.tip; (exact hSle); (first | exact rfl | exact qy fun _ => rfl); ((simp [maxLen]; omega)); ((simp; omega)); intro c' S2 t1 g1 g2 g3 g4; replace g2 : Fr S1 S2 t1 := g2; replace g4 : c = .sl 1 (out.map fun x => Sv x) (some t1) ∨ S1.length ≤ t1 := g4) | (apply zz (i := frm) (j := a); (iterate 4 exact rfl); exact hfa; omega))
          apply qa
          refine qc [8] (by kernel_rfl) rfl ⟨⟨_, rfl, ?_⟩, trivial⟩
          (apply qm; exact rfl; exact rfl; exact qu g2 g4 hi1.tip c1 (qw rfl); exact rfl; exact kf g1; exact jt g1; exact rfl; exact ke g1; exact rfl)
          apply qa
          refine zj (by kernel_rfl) ?_
          exact ⟨rfl, rfl, rfl, qh (qu g2 g4 hi1.tip hd2 ja) (by omega), qh (qu g2 g4 hi1.tip hf2 (jz hF _ _ rfl)) (by omega), qh (qu g2 g4 hi1.tip hown2 hnt) (by omega), qh (qu g2 g4 hi1.tip hln (qw rfl)) (by omega), qh (qu g2 g4 hi1.tip c2 (qw rfl)) (by omega), c', hi1.app g1 g2 g3 g4⟩
         ·(apply qj; (iterate 9 exact rfl))
          apply qa
          refine qc [0] (by kernel_rfl) rfl ⟨⟨_, rfl, ?_⟩, trivial⟩
          (apply qb; exact rfl; (first | exact c0 | exact c1 | exact c2 | exact hln); exact rfl; exact rfl)
          apply qa
          refine qc [7] (by kernel_rfl) rfl ⟨⟨_, rfl, ?_⟩, trivial⟩
          (first | (apply ql (b := st.length + 4) (xs := out.map fun x => Sv x) (ys := [Sv ((text.take a).drop frm)]) (bytes := 16);  (iterate 5 exact rfl); exact ⟨⟨_, _, rfl, rfl, rfl, rfl, rfl⟩⟩; exact hi1.tip; (exact hSle); (first | exact rfl | exact qy fun _ => rfl); ((simp [maxLen]; omega)); ((simp; omega)); intro c' S2 t1 g1 g2 g3 g4; replace g2 : Fr S1 S2 t1 := g2; replace g4 : c = .sl 1 (out.map fun x => Sv x) (some t1) ∨ S1.length ≤ t1 := g4) | (apply zz (i := frm) (j := a); (iterate 4 exact rfl); exact hfa; omega))
          apply qa
          refine qc [8] (by kernel_rfl) rfl ⟨⟨_, rfl, ?_⟩, trivial⟩
          (apply qm; exact rfl; exact rfl; exact qu g2 g4 hi1.tip c1 (qw rfl); exact rfl; exact kf g1; exact jt g1; exact rfl; exact ke g1; exact rfl)
          apply qa
          refine zj (by kernel_rfl) ?_
          exact ⟨rfl, rfl, rfl, qh (qu g2 g4 hi1.tip hd2 ja) (by omega), qh (qu g2 g4 hi1.tip hf2 (jz hF _ _ rfl)) (by omega), qh (qu g2 g4 hi1.tip hown2 hnt) (by omega), qh (qu g2 g4 hi1.tip hln (qw rfl)) (by omega), qh (qu g2 g4 hi1.tip c2 (qw rfl)) (by omega), c', hi1.app g1 g2 g3 g4⟩
    ·rintro ⟨t2, S3, df2⟩ ⟨q4, q5, qd, k1, k2, k3, k4, k5, c', hi3⟩
     simp only at q4 q5 qd k1 k2 k3 k4 k5 hi3
     subst qd
     have ht2 : t2 = puts t2 [(4, .bx (st.length + 2) 0 0), (5, .bx S.length 0 0)] := (qaa (L := [(4, .bx (st.length + 2) 0 0), (5, .bx S.length 0 0)]) ⟨q4, q5, trivial⟩).symm
     rw [ht2]
     repeat' (first
      | apply qe
      | apply qa
      | (apply za; (iterate 3 exact rfl))
      | (apply qb; exact rfl; (focus first | assumption | (repeat' (first | assumption | exact jl | exact zw rfl | apply zn | apply qh | omega | apply z6))); exact rfl; exact rfl)
      | (apply qm; exact rfl; exact rfl; (focus first | assumption | (repeat' (first | assumption | exact jl | exact zw rfl | apply zn | apply qh | omega | apply z6))); (iterate 6 exact rfl)))
     exact ⟨qh k1 (by omega), qh k2 (by omega), qh k3 (by omega), hnext _ _ a c' hi3 (Nat.le_refl _) (by simp; omega) (by rw [← htx, List.append_assoc]; exact hrun)⟩
  ·have hrun2 : v4 text (⟨k, a, tx, decide (10 ∈ rest)⟩ :: va (k + 1) (a + tx.length + 1) (past 10 rest)) frm = v4 text (va (k + 1) (a + tx.length + 1) (past 10 rest)) frm := if_neg fun h => hgt h.1
   rw [hrun2] at hrun
   repeat' (first
    | apply qr
    | apply q7
    | apply qe
    | apply qa
    | apply qn
    | (apply qt; (iterate 3 exact rfl))
    | (apply zh; (iterate 4 exact rfl))
    | (apply yz; (first | assumption | omega))
    | (apply zk; exact rfl; first | (apply jx; (first | assumption | omega)) | (apply jw; (first | assumption | omega)) | (apply jy; (first | exact rfl | assumption)) | (apply jv; (first | exact rfl | assumption)) | (apply pk_t; (first | exact rfl | assumption)) | (apply pk_f; (first | exact rfl | assumption)))
    | (apply qg; exact rfl; first | (apply zd; (first | assumption | omega)) | (apply zf; (first | assumption | omega)) | (apply ze; (first | exact rfl | assumption)) | (apply zg; (first | exact rfl | assumption)) | (apply cd_n <;> intro h) | (apply cd_t; (first | exact rfl | assumption)) | (apply cd_f; (first | exact rfl | assumption)) | (apply cd_d <;> intro h) | (apply cd_s <;> intro h))
    | (apply za; (iterate 3 exact rfl))
    | apply q8
    | (apply qb; exact rfl; (focus first | assumption | (repeat' (first | assumption | exact jl | exact zw rfl | apply zn | apply qh | omega | apply z6))); exact rfl; exact rfl))
   exact ⟨hd2, hf2, hown2, hnext S1 out frm c hi1 hfa (by omega) (by rw [← htx]; exact hrun)⟩
 ·rintro k S ⟨out, frm, c, a, hi, ha, hfa, hok, hka, hrun⟩ hd1
  rw [ye] at hrun
  rw [hSl] at hd1 ⊢
  have c0 := hi.c0
  have c1 := hi.c1
  have c2 := hi.c2
  have hlen := lt_of_getElem? hd1
  simp only [List.length_nil] at ha
  have hSle : st.length + 4 ≤ S.length := by omega
  have hmo : (out.map fun x => Sv x).length = out.length := by simp
  have hrun3 : out ++ [text.drop frm] = wh text := hrun
  repeat' (first
   | apply qr)
  refine qat (fun s => s.df = [st.length + 4] ∧ s.st[st.length + 4]? = some .dfr ∧ (∀ j, j < st.length → s.st[j]? = st[j]?) ∧ ∃ c', s.t 2 = c' ∧ TipO (st.length + 4) s.st 1 9 ((wh text).map fun x => Sv x) c') ?_ ?_
  ·refine x8 rfl rfl ?_
   refine qc [0, 1, 2] (by kernel_rfl) rfl ⟨⟨_, rfl, ?_⟩, ⟨_, rfl, ?_⟩, ⟨_, rfl, ?_⟩, trivial⟩
   ·(apply qb; exact rfl; (first | exact c0 | exact c1 | exact c2); exact rfl; exact rfl)
    apply qa
    refine qc [1, 2] (by kernel_rfl) rfl ⟨⟨_, rfl, ?_⟩, ⟨_, rfl, ?_⟩, trivial⟩
    ·(apply qb; exact rfl; (first | exact c0 | exact c1 | exact c2); exact rfl; exact rfl)
     apply qa
     refine qc [2] (by kernel_rfl) rfl ⟨⟨_, rfl, ?_⟩, trivial⟩
     (apply qb; exact rfl; (first | exact c0 | exact c1 | exact c2); exact rfl; exact rfl)
     apply qa
     refine qc [3] (by kernel_rfl) rfl ⟨⟨_, rfl, ?_⟩, trivial⟩
     (first | (apply ql (b := st.length + 4) (xs := out.map fun x => Sv x) (ys := [Sv (text.drop frm)]) (bytes := 16);  (iterate 5 exact rfl); exact ⟨⟨_, _, rfl, rfl, rfl, rfl, rfl⟩⟩; exact hi.tip; (exact hSle); (first | exact rfl | exact qy fun _ => rfl); ((simp [maxLen]; omega)); ((simp; omega)); intro c' S2 t1 g1 g2 g3 g4; replace g2 : Fr S S2 t1 := g2; replace g4 : c = .sl 1 (out.map fun x => Sv x) (some t1) ∨ S.length ≤ t1 := g4) | (apply kr (i := frm); (iterate 3 exact rfl); omega))
     apply qa
     refine qc [4] (by kernel_rfl) rfl ⟨⟨_, rfl, ?_⟩, trivial⟩
     (apply qj; (iterate 9 exact rfl))
     apply qa
     refine qc [5] (by kernel_rfl) rfl ⟨⟨_, rfl, ?_⟩, trivial⟩
     (first | (apply ql (b := st.length + 4) (xs := out.map fun x => Sv x) (ys := [Sv (text.drop frm)]) (bytes := 16);  (iterate 5 exact rfl); exact ⟨⟨_, _, rfl, rfl, rfl, rfl, rfl⟩⟩; exact hi.tip; (exact hSle); (first | exact rfl | exact qy fun _ => rfl); ((simp [maxLen]; omega)); ((simp; omega)); intro c' S2 t1 g1 g2 g3 g4; replace g2 : Fr S S2 t1 := g2; replace g4 : c = .sl 1 (out.map fun x => Sv x) (some t1) ∨ S.length ≤ t1 := g4) | (apply kr (i := frm); (iterate 3 exact rfl); omega))
     apply qa
     (apply qo 6; exact rfl; kernel_rfl; kernel_rfl; kernel_rfl; exact rfl; exact x5)
     refine zj (by kernel_rfl) ?_
     exact ⟨rfl, qu g2 g4 hi.tip hd1 ja, qbh (S := S) g2 (by omega) (by omega) hi.low, c', rfl, by rw [← hrun3, xi (fun x => Sv x)]; exact g1⟩
    ·(apply qb; exact rfl; (first | exact c0 | exact c1 | exact c2); exact rfl; exact rfl)
     apply qa
     refine qc [1] (by kernel_rfl) rfl ⟨⟨_, rfl, ?_⟩, trivial⟩
     (apply qb; exact rfl; (first | exact c0 | exact c1 | exact c2); exact rfl; exact rfl)
     apply qa
     refine qc [3] (by kernel_rfl) rfl ⟨⟨_, rfl, ?_⟩, trivial⟩
     (first | (apply ql (b := st.length + 4) (xs := out.map fun x => Sv x) (ys := [Sv (text.drop frm)]) (bytes := 16);  (iterate 5 exact rfl); exact ⟨⟨_, _, rfl, rfl, rfl, rfl, rfl⟩⟩; exact hi.tip; (exact hSle); (first | exact rfl | exact qy fun _ => rfl); ((simp [maxLen]; omega)); ((simp; omega)); intro c' S2 t1 g1 g2 g3 g4; replace g2 : Fr S S2 t1 := g2; replace g4 : c = .sl 1 (out.map fun x => Sv x) (some t1) ∨ S.length ≤ t1 := g4) | (apply kr (i := frm); (iterate 3 exact rfl); omega))
     apply qa
     refine qc [4] (by kernel_rfl) rfl ⟨⟨_, rfl, ?_⟩, trivial⟩
     (apply qj; (iterate 9 exact rfl))
     apply qa
     refine qc [5] (by kernel_rfl) rfl ⟨⟨_, rfl, ?_⟩, trivial⟩
     (first | (apply ql (b := st.length + 4) (xs := out.map fun x => Sv x) (ys := [Sv (text.drop frm)]) (bytes := 16);  (iterate 5 exact rfl); exact ⟨⟨_, _, rfl, rfl, rfl, rfl, rfl⟩⟩; exact hi.tip; (exact hSle); (first | exact rfl | exact qy fun _ => rfl); ((simp [maxLen]; omega)); ((simp; omega)); intro c' S2 t1 g1 g2 g3 g4; replace g2 : Fr S S2 t1 := g2; replace g4 : c = .sl 1 (out.map fun x => Sv x) (some t1) ∨ S.length ≤ t1 := g4) | (apply kr (i := frm); (iterate 3 exact rfl); omega))
     apply qa
     (apply qo 6; exact rfl; kernel_rfl; kernel_rfl; kernel_rfl; exact rfl; exact x5)
     refine zj (by kernel_rfl) ?_
     exact ⟨rfl, qu g2 g4 hi.tip hd1 ja, qbh (S := S) g2 (by omega) (by omega) hi.low, c', rfl, by rw [← hrun3, xi (fun x => Sv x)]; exact g1⟩
   ·(apply qb; exact rfl; (first | exact c0 | exact c1 | exact c2); exact rfl; exact rfl)
    apply qa
    refine qc [0, 2] (by kernel_rfl) rfl ⟨⟨_, rfl, ?_⟩, ⟨_, rfl, ?_⟩, trivial⟩
    ·(apply qb; exact rfl; (first | exact c0 | exact c1 | exact c2); exact rfl; exact rfl)
     apply qa
     refine qc [2] (by kernel_rfl) rfl ⟨⟨_, rfl, ?_⟩, trivial⟩
     (apply qb; exact rfl; (first | exact c0 | exact c1 | exact c2); exact rfl; exact rfl)
     apply qa
     refine qc [3] (by kernel_rfl) rfl ⟨⟨_, rfl, ?_⟩, trivial⟩
     (first | (apply ql (b := st.length + 4) (xs := out.map fun x => Sv x) (ys := [Sv (text.drop frm)]) (bytes := 16);  (iterate 5 exact rfl); exact ⟨⟨_, _, rfl, rfl, rfl, rfl, rfl⟩⟩; exact hi.tip; (exact hSle); (first | exact rfl | exact qy fun _ => rfl); ((simp [maxLen]; omega)); ((simp; omega)); intro c' S2 t1 g1 g2 g3 g4; replace g2 : Fr S S2 t1 := g2; replace g4 : c = .sl 1 (out.map fun x => Sv x) (some t1) ∨ S.length ≤ t1 := g4) | (apply kr (i := frm); (iterate 3 exact rfl); omega))
     apply qa
     refine qc [4] (by kernel_rfl) rfl ⟨⟨_, rfl, ?_⟩, trivial⟩
     (apply qj; (iterate 9 exact rfl))
     apply qa
     refine qc [5] (by kernel_rfl) rfl ⟨⟨_, rfl, ?_⟩, trivial⟩
     (first | (apply ql (b := st.length + 4) (xs := out.map fun x => Sv x) (ys := [Sv (text.drop frm)]) (bytes := 16);  (iterate 5 exact rfl); exact ⟨⟨_, _, rfl, rfl, rfl, rfl, rfl⟩⟩; exact hi.tip; (exact hSle); (first | exact rfl | exact qy fun _ => rfl); ((simp [maxLen]; omega)); ((simp; omega)); intro c' S2 t1 g1 g2 g3 g4; replace g2 : Fr S S2 t1 := g2; replace g4 : c = .sl 1 (out.map fun x => Sv x) (some t1) ∨ S.length ≤ t1 := g4) | (apply kr (i := frm); (iterate 3 exact rfl); omega))
     apply qa
     (apply qo 6; exact rfl; kernel_rfl; kernel_rfl; kernel_rfl; exact rfl; exact x5)
     refine zj (by kernel_rfl) ?_
     exact ⟨rfl, qu g2 g4 hi.tip hd1 ja, qbh (S := S) g2 (by omega) (by omega) hi.low, c', rfl, by rw [← hrun3, xi (fun x => Sv x)]; exact g1⟩
    ·(apply qb; exact rfl; (first | exact c0 | exact c1 | exact c2); exact rfl; exact rfl)
     apply qa
     refine qc [0, 3] (by kernel_rfl) rfl ⟨⟨_, rfl, ?_⟩, ⟨_, rfl, ?_⟩, trivial⟩
     ·(apply qb; exact rfl; (first | exact c0 | exact c1 | exact c2); exact rfl; exact rfl)
      apply qa
      refine qc [3] (by kernel_rfl) rfl ⟨⟨_, rfl, ?_⟩, trivial⟩
      (first | (apply ql (b := st.length + 4) (xs := out.map fun x => Sv x) (ys := [Sv (text.drop frm)]) (bytes := 16);  (iterate 5 exact rfl); exact ⟨⟨_, _, rfl, rfl, rfl, rfl, rfl⟩⟩; exact hi.tip; (exact hSle); (first | exact rfl | exact qy fun _ => rfl); ((simp [maxLen]; omega)); ((simp; omega)); intro c' S2 t1 g1 g2 g3 g4; replace g2 : Fr S S2 t1 := g2; replace g4 : c = .sl 1 (out.map fun x => Sv x) (some t1) ∨ S.length ≤ t1 := g4) | (apply kr (i := frm); (iterate 3 exact rfl); omega))
      apply qa
      refine qc [4] (by kernel_rfl) rfl ⟨⟨_, rfl, ?_⟩, trivial⟩
      (apply qj; (iterate 9 exact rfl))
      apply qa
      refine qc [5] (by kernel_rfl) rfl ⟨⟨_, rfl, ?_⟩, trivial⟩
      (first | (apply ql (b := st.length + 4) (xs := out.map fun x => Sv x) (ys := [Sv (text.drop frm)]) (bytes := 16);  (iterate 5 exact rfl); exact ⟨⟨_, _, rfl, rfl, rfl, rfl, rfl⟩⟩; exact hi.tip; (exact hSle); (first | exact rfl | exact qy fun _ => rfl); ((simp [maxLen]; omega)); ((simp; omega)); intro c' S2 t1 g1 g2 g3 g4; replace g2 : Fr S S2 t1 := g2; replace g4 : c = .sl 1 (out.map fun x => Sv x) (some t1) ∨ S.length ≤ t1 := g4) | (apply kr (i := frm); (iterate 3 exact rfl); omega))
      apply qa
      (apply qo 6; exact rfl; kernel_rfl; kernel_rfl; kernel_rfl; exact rfl; exact x5)
      refine zj (by kernel_rfl) ?_
      exact ⟨rfl, qu g2 g4 hi.tip hd1 ja, qbh (S := S) g2 (by omega) (by omega) hi.low, c', rfl, by rw [← hrun3, xi (fun x => Sv x)]; exact g1⟩
     ·(first | (apply ql (b := st.length + 4) (xs := out.map fun x => Sv x) (ys := [Sv (text.drop frm)]) (bytes := 16);  (iterate 5 exact rfl); exact ⟨⟨_, _, rfl, rfl, rfl, rfl, rfl⟩⟩; exact hi.tip; (exact hSle); (first | exact rfl | exact qy fun _ => rfl); ((simp [maxLen]; omega)); ((simp; omega)); intro c' S2 t1 g1 g2 g3 g4; replace g2 : Fr S S2 t1 := g2; replace g4 : c = .sl 1 (out.map fun x => Sv x) (some t1) ∨ S.length ≤ t1 := g4) | (apply kr (i := frm); (iterate 3 exact rfl); omega))
      apply qa
      refine qc [0, 4] (by kernel_rfl) rfl ⟨⟨_, rfl, ?_⟩, ⟨_, rfl, ?_⟩, trivial⟩
      ·(apply qb; exact rfl; (first | exact c0 | exact c1 | exact c2); exact rfl; exact rfl)
       apply qa
       refine qc [4] (by kernel_rfl) rfl ⟨⟨_, rfl, ?_⟩, trivial⟩
       (apply qj; (iterate 9 exact rfl))
       apply qa
       refine qc [5] (by kernel_rfl) rfl ⟨⟨_, rfl, ?_⟩, trivial⟩
       (first | (apply ql (b := st.length + 4) (xs := out.map fun x => Sv x) (ys := [Sv (text.drop frm)]) (bytes := 16);  (iterate 5 exact rfl); exact ⟨⟨_, _, rfl, rfl, rfl, rfl, rfl⟩⟩; exact hi.tip; (exact hSle); (first | exact rfl | exact qy fun _ => rfl); ((simp [maxLen]; omega)); ((simp; omega)); intro c' S2 t1 g1 g2 g3 g4; replace g2 : Fr S S2 t1 := g2; replace g4 : c = .sl 1 (out.map fun x => Sv x) (some t1) ∨ S.length ≤ t1 := g4) | (apply kr (i := frm); (iterate 3 exact rfl); omega))
       apply qa
       (apply qo 6; exact rfl; kernel_rfl; kernel_rfl; kernel_rfl; exact rfl; exact x5)
       refine zj (by kernel_rfl) ?_
       exact ⟨rfl, qu g2 g4 hi.tip hd1 ja, qbh (S := S) g2 (by omega) (by omega) hi.low, c', rfl, by rw [← hrun3, xi (fun x => Sv x)]; exact g1⟩
      ·(apply qj; (iterate 9 exact rfl))
       apply qa
       refine qc [0] (by kernel_rfl) rfl ⟨⟨_, rfl, ?_⟩, trivial⟩
       (apply qb; exact rfl; (first | exact c0 | exact c1 | exact c2); exact rfl; exact rfl)
       apply qa
       refine qc [5] (by kernel_rfl) rfl ⟨⟨_, rfl, ?_⟩, trivial⟩
       (first | (apply ql (b := st.length + 4) (xs := out.map fun x => Sv x) (ys := [Sv (text.drop frm)]) (bytes := 16);  (iterate 5 exact rfl); exact ⟨⟨_, _, rfl, rfl, rfl, rfl, rfl⟩⟩; exact hi.tip; (exact hSle); (first | exact rfl | exact qy fun _ => rfl); ((simp [maxLen]; omega)); ((simp; omega)); intro c' S2 t1 g1 g2 g3 g4; replace g2 : Fr S S2 t1 := g2; replace g4 : c = .sl 1 (out.map fun x => Sv x) (some t1) ∨ S.length ≤ t1 := g4) | (apply kr (i := frm); (iterate 3 exact rfl); omega))
       apply qa
       (apply qo 6; exact rfl; kernel_rfl; kernel_rfl; kernel_rfl; exact rfl; exact x5)
       refine zj (by kernel_rfl) ?_
       exact ⟨rfl, qu g2 g4 hi.tip hd1 ja, qbh (S := S) g2 (by omega) (by omega) hi.low, c', rfl, by rw [← hrun3, xi (fun x => Sv x)]; exact g1⟩
   ·(apply qb; exact rfl; (first | exact c0 | exact c1 | exact c2); exact rfl; exact rfl)
    apply qa
    refine qc [0, 1] (by kernel_rfl) rfl ⟨⟨_, rfl, ?_⟩, ⟨_, rfl, ?_⟩, trivial⟩
    ·(apply qb; exact rfl; (first | exact c0 | exact c1 | exact c2); exact rfl; exact rfl)
     apply qa
     refine qc [1] (by kernel_rfl) rfl ⟨⟨_, rfl, ?_⟩, trivial⟩
     (apply qb; exact rfl; (first | exact c0 | exact c1 | exact c2); exact rfl; exact rfl)
     apply qa
     refine qc [3] (by kernel_rfl) rfl ⟨⟨_, rfl, ?_⟩, trivial⟩
     (first | (apply ql (b := st.length + 4) (xs := out.map fun x => Sv x) (ys := [Sv (text.drop frm)]) (bytes := 16);  (iterate 5 exact rfl); exact ⟨⟨_, _, rfl, rfl, rfl, rfl, rfl⟩⟩; exact hi.tip; (exact hSle); (first | exact rfl | exact qy fun _ => rfl); ((simp [maxLen]; omega)); ((simp; omega)); intro c' S2 t1 g1 g2 g3 g4; replace g2 : Fr S S2 t1 := g2; replace g4 : c = .sl 1 (out.map fun x => Sv x) (some t1) ∨ S.length ≤ t1 := g4) | (apply kr (i := frm); (iterate 3 exact rfl); omega))
     apply qa
     refine qc [4] (by kernel_rfl) rfl ⟨⟨_, rfl, ?_⟩, trivial⟩
     (apply qj; (iterate 9 exact rfl))
     apply qa
     refine qc [5] (by kernel_rfl) rfl ⟨⟨_, rfl, ?_⟩, trivial⟩
     (first | (apply ql (b := st.length + 4) (xs := out.map fun x => Sv x) (ys := [Sv (text.drop frm)]) (bytes := 16);  (iterate 5 exact rfl); exact ⟨⟨_, _, rfl, rfl, rfl, rfl, rfl⟩⟩; exact hi.tip; (exact hSle); (first | exact rfl | exact qy fun _ => rfl); ((simp [maxLen]; omega)); ((simp; omega)); intro c' S2 t1 g1 g2 g3 g4; replace g2 : Fr S S2 t1 := g2; replace g4 : c = .sl 1 (out.map fun x => Sv x) (some t1) ∨ S.length ≤ t1 := g4) | (apply kr (i := frm); (iterate 3 exact rfl); omega))
     apply qa
     (apply qo 6; exact rfl; kernel_rfl; kernel_rfl; kernel_rfl; exact rfl; exact x5)
     refine zj (by kernel_rfl) ?_
     exact ⟨rfl, qu g2 g4 hi.tip hd1 ja, qbh (S := S) g2 (by omega) (by omega) hi.low, c', rfl, by rw [← hrun3, xi (fun x => Sv x)]; exact g1⟩
    ·(apply qb; exact rfl; (first | exact c0 | exact c1 | exact c2); exact rfl; exact rfl)
     apply qa
     refine qc [0, 3] (by kernel_rfl) rfl ⟨⟨_, rfl, ?_⟩, ⟨_, rfl, ?_⟩, trivial⟩
     ·(apply qb; exact rfl; (first | exact c0 | exact c1 | exact c2); exact rfl; exact rfl)
      apply qa
      refine qc [3] (by kernel_rfl) rfl ⟨⟨_, rfl, ?_⟩, trivial⟩
      (first | (apply ql (b := st.length + 4) (xs := out.map fun x => Sv x) (ys := [Sv (text.drop frm)]) (bytes := 16);  (iterate 5 exact rfl); exact ⟨⟨_, _, rfl, rfl, rfl, rfl, rfl⟩⟩; exact hi.tip; (exact hSle); (first | exact rfl | exact qy fun _ => rfl); ((simp [maxLen]; omega)); ((simp; omega)); intro c' S2 t1 g1 g2 g3 g4; replace g2 : Fr S S2 t1 := g2; replace g4 : c = .sl 1 (out.map fun x => Sv x) (some t1) ∨ S.length ≤ t1 := g4) | (apply kr (i := frm); (iterate 3 exact rfl); omega))
      apply qa
      refine qc [4] (by kernel_rfl) rfl ⟨⟨_, rfl, ?_⟩, trivial⟩
      (apply qj; (iterate 9 exact rfl))
      apply qa
      refine qc [5] (by kernel_rfl) rfl ⟨⟨_, rfl, ?_⟩, trivial⟩
      (first | (apply ql (b := st.length + 4) (xs := out.map fun x => Sv x) (ys := [Sv (text.drop frm)]) (bytes := 16);  (iterate 5 exact rfl); exact ⟨⟨_, _, rfl, rfl, rfl, rfl, rfl⟩⟩; exact hi.tip; (exact hSle); (first | exact rfl | exact qy fun _ => rfl); ((simp [maxLen]; omega)); ((simp; omega)); intro c' S2 t1 g1 g2 g3 g4; replace g2 : Fr S S2 t1 := g2; replace g4 : c = .sl 1 (out.map fun x => Sv x) (some t1) ∨ S.length ≤ t1 := g4) | (apply kr (i := frm); (iterate 3 exact rfl); omega))
      apply qa
      (apply qo 6; exact rfl; kernel_rfl; kernel_rfl; kernel_rfl; exact rfl; exact x5)
      refine zj (by kernel_rfl) ?_
      exact ⟨rfl, qu g2 g4 hi.tip hd1 ja, qbh (S := S) g2 (by omega) (by omega) hi.low, c', rfl, by rw [← hrun3, xi (fun x => Sv x)]; exact g1⟩
     ·(first | (apply ql (b := st.length + 4) (xs := out.map fun x => Sv x) (ys := [Sv (text.drop frm)]) (bytes := 16);  (iterate 5 exact rfl); exact ⟨⟨_, _, rfl, rfl, rfl, rfl, rfl⟩⟩; exact hi.tip; (exact hSle); (first | exact rfl | exact qy fun _ => rfl); ((simp [maxLen]; omega)); ((simp; omega)); intro c' S2 t1 g1 g2 g3 g4; replace g2 : Fr S S2 t1 := g2; replace g4 : c = .sl 1 (out.map fun x => Sv x) (some t1) ∨ S.length ≤ t1 := g4) | (apply kr (i := frm); (iterate 3 exact rfl); omega))
      apply qa
      refine qc [0, 4] (by kernel_rfl) rfl ⟨⟨_, rfl, ?_⟩, ⟨_, rfl, ?_⟩, trivial⟩
      ·(apply qb; exact rfl; (first | exact c0 | exact c1 | exact c2); exact rfl; exact rfl)
       apply qa
       refine qc [4] (by kernel_rfl) rfl ⟨⟨_, rfl, ?_⟩, trivial⟩
       (apply qj; (iterate 9 exact rfl))
       apply qa
       refine qc [5] (by kernel_rfl) rfl ⟨⟨_, rfl, ?_⟩, trivial⟩
       (first | (apply ql (b := st.length + 4) (xs := out.map fun x => Sv x) (ys := [Sv (text.drop frm)]) (bytes := 16);  (iterate 5 exact rfl); exact ⟨⟨_, _, rfl, rfl, rfl, rfl, rfl⟩⟩; exact hi.tip; (exact hSle); (first | exact rfl | exact qy fun _ => rfl); ((simp [maxLen]; omega)); ((simp; omega)); intro c' S2 t1 g1 g2 g3 g4; replace g2 : Fr S S2 t1 := g2; replace g4 : c = .sl 1 (out.map fun x => Sv x) (some t1) ∨ S.length ≤ t1 := g4) | (apply kr (i := frm); (iterate 3 exact rfl); omega))
       apply qa
       (apply qo 6; exact rfl; kernel_rfl; kernel_rfl; kernel_rfl; exact rfl; exact x5)
       refine zj (by kernel_rfl) ?_
       exact ⟨rfl, qu g2 g4 hi.tip hd1 ja, qbh (S := S) g2 (by omega) (by omega) hi.low, c', rfl, by rw [← hrun3, xi (fun x => Sv x)]; exact g1⟩
      ·(apply qj; (iterate 9 exact rfl))
       apply qa
       refine qc [0] (by kernel_rfl) rfl ⟨⟨_, rfl, ?_⟩, trivial⟩
       (apply qb; exact rfl; (first | exact c0 | exact c1 | exact c2); exact rfl; exact rfl)
       apply qa
       refine qc [5] (by kernel_rfl) rfl ⟨⟨_, rfl, ?_⟩, trivial⟩
       (first | (apply ql (b := st.length + 4) (xs := out.map fun x => Sv x) (ys := [Sv (text.drop frm)]) (bytes := 16);  (iterate 5 exact rfl); exact ⟨⟨_, _, rfl, rfl, rfl, rfl, rfl⟩⟩; exact hi.tip; (exact hSle); (first | exact rfl | exact qy fun _ => rfl); ((simp [maxLen]; omega)); ((simp; omega)); intro c' S2 t1 g1 g2 g3 g4; replace g2 : Fr S S2 t1 := g2; replace g4 : c = .sl 1 (out.map fun x => Sv x) (some t1) ∨ S.length ≤ t1 := g4) | (apply kr (i := frm); (iterate 3 exact rfl); omega))
       apply qa
       (apply qo 6; exact rfl; kernel_rfl; kernel_rfl; kernel_rfl; exact rfl; exact x5)
       refine zj (by kernel_rfl) ?_
       exact ⟨rfl, qu g2 g4 hi.tip hd1 ja, qbh (S := S) g2 (by omega) (by omega) hi.low, c', rfl, by rw [← hrun3, xi (fun x => Sv x)]; exact g1⟩
  ·rintro ⟨t2, S3, df2⟩ ⟨qd, k1, k2, c', q2, hT3⟩
   simp only at qd k1 k2 q2 hT3
   subst qd
   have ht2 : t2 = puts t2 [(2, c')] := (qaa (L := [(2, c')]) ⟨q2, trivial⟩).symm
   rw [ht2]
   apply q9
   show ARet _ _ _ _
   refine qbz (o := st.length + 4) rfl k1 (qs rfl (kq (zt rfl) (je hT3)) ⟨rfl, qk3 fun j hj => (zv (by omega)).trans (k2 j hj)⟩)
end Go.Proofs.YtefmcijohgpfhaaGreatDoor
