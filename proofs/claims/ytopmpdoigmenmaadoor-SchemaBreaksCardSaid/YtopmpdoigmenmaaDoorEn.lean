/- From a contract on abstract values to what a row asks: the start, the listed variables, the end. -/
import Derived.Test.YtopmpdoigmenmaaDoorLib
import Derived.Test.YtopmpdoigmenmaaDoorRows
import Derived.ProofKit
import Derived.OpenShut
import Derived.ShutString
import Derived.Deep.DeepHandedRow
import Derived.Deep.DeepWitnessRowRef
import Derived.Lib.LaidU8
import Derived.Lib.SmallJoins
import Derived.ChangeSame
import Derived.ChangeAgain
import Derived.Lay
set_option linter.unusedVariables false
namespace Go.Av
open Go Go.RowKit Go.WideShapes Go.ChangeShapes

def G0 : Gh := ⟨fun _ => none, fun _ => ⟨0, 0, 0, false⟩, 0⟩
theorem agree_start (W : World) : Agree W.heap.size W G0 [] W :=
  ⟨Below.refl _ _, Nat.le_refl _, rfl, fun b vs h => by simp [G0] at h, fun o x h => by simp at h, fun o o' x x' _ h => by simp at h⟩
theorem relL_pure (G : Gh) (vals : Array Value) : RelL G (vals.toList.map .v) vals := by
  refine ⟨by simp, fun i x y hx hy => ?_⟩
  rw [List.getElem?_map] at hx
  rw [Array.getElem?_toList, hy] at hx
  simp at hx
  subst hx
  exact .v y
theorem calls_of_acall {E : Env} {f : FuncId} {args : List AV} {vals : Array Value} {b : Bool} {W : World} (h : ACall E f args [] fun r st' => r = Bv b ∧ st' = []) (hL : E.L W.heap.size W) (ha : args = vals.toList.map .v) :
    Calls E.P f vals W fun e w' => e = .returned (.bool b) ∧ Below W.heap.size W w' := by
  subst ha
  refine (h.run W.heap.size W G0 vals W hL (agree_start W) (relL_pure _ _)).mono ?_
  rintro e w' ⟨v, G', r, st', rfl, _, hA, hr, rfl, _⟩
  cases hr
  exact ⟨rfl, hA.below⟩

theorem tabIs_of_reads {P : Program} {W : World} {name : String} {k : IntKind} {zs : List Int} {g : Nat} {t e : TypeId} {n : Nat}
    (hg : P.globalNamed name = some g) (hty : (P.globals[g]?).map (·.type) = some t) (ht : P.underlying t = some (.array n e)) (he : P.underlying e = some (.int k)) (hce : P.cellsOf e = 1) (hct : P.cellsOf t = n)
    (h : Lib.VarReads P W name (Lib.tabData k zs)) : Lib.TabIs P W name k zs := by
  obtain ⟨g', t', cs, fuel, p, hg', ht', hvar, hd⟩ := h
  obtain rfl := Option.some.inj (hg.symm.trans hg')
  obtain rfl := Option.some.inj (hty.symm.trans ht')
  unfold Lib.TabIs
  rw [hvar, ← Lib.cells_of_tab ht he hce hct hd]
theorem sent_of_reads {P : Program} {W : World} {name s : String} {d : DataW Unit} {g : Nat} {t : TypeId} {ms : Array (String × TypeId)}
    (hg : P.globalNamed name = some g) (hty : (P.globals[g]?).map (·.type) = some t) (ht : P.underlying t = some (.interface ms))
    (h : Lib.VarReads P W name (.iface s d)) : ∃ tp p, W.var? P name = some #[.iface tp p] := by
  obtain ⟨g', t', cs, fuel, p, hg', ht', hvar, hd⟩ := h
  obtain rfl := Option.some.inj (hg.symm.trans hg')
  obtain rfl := Option.some.inj (hty.symm.trans ht')
  cases fuel with
  | zero => simp [DataW.trod] at hd
  | succ fuel =>
    obtain ⟨l⟩ := cs
    simp only [DataW.trod, ht] at hd
    split at hd
    all_goals simp_all

section
variable {H : Type} {enc : TypeId × Value → H} {P : Program}
theorem post_of_below {f : Func} {s : ChangeSpec} {apart fresh handsOn again : Bool} {W W' : World} {args : Array Value} {v : Value} {ds gs : List (DataW H)} {before pa pv : List MemPlace}
    (hW : DataW.Whole enc P f.params.toList s.vars apart W args.toList ds gs before)
    (hres : ∀ (b : Nat) (sp : Nat → Bool) (hd : Bool), DataW.TrodAll enc P W' b sp hd f.resultTypes.toList (v.resultList f.resultTypes.size) (s.fn H (ds ++ gs)).results [])
    (hargs : ∀ sp : Nat → Bool, (∀ p ∈ before, sp p.block = true) → DataW.TrodAll enc P W' 0 sp true f.params.toList args.toList (s.fn H (ds ++ gs)).args pa)
    (hvars : ∀ sp : Nat → Bool, (∀ p ∈ before, sp p.block = true) → DataW.TrodVars enc P W' sp s.vars (s.fn H (ds ++ gs)).vars pv)
    (hps : before = pa ++ pv) (hb : Below W.heap.size W W')
    (hok : ∀ (j : Nat) (t : TypeId) (r : Value), f.resultTypes[j]? = some t → (v.resultList f.resultTypes.size)[j]? = some r → Value.okWide P W' .any 0 t r) :
    s.post enc P f apart fresh handsOn again W args v W' := by
  have hlt : ∀ p ∈ before, p.block < W.heap.size := fun p hp => hW.lt p hp
  have hold : ∀ p ∈ before, (fun b => decide (b < W.heap.size)) p.block = true := fun p hp => by simpa using hlt p hp
  refine ⟨ds, gs, before, [], pa, pv, hW, hres _ _ _, hargs _ hold, hvars _ hold, World.keptBut_mono (fun p hp => ⟨hp, ?_⟩) (hb.frame (· ∈ before)), fun _ => ?_⟩
  · rw [hps, List.mem_append] at hp
    exact Or.inr hp
  · obtain ⟨_, _, _, _, _, hz, hn⟩ := hW
    refine ⟨hok, _, _, ([] ++ pa) ++ pv, ⟨[] ++ pa, pv, trodAll_append (hargs _ (fun _ _ => rfl)) (hres _ _ _), hvars _ (fun _ _ => rfl), rfl, ?_, ?_⟩, ?_⟩
    · intro b off hp
      have hin : MemPlace.cell b off ∈ before := by rw [hps]; simpa using hp
      rw [hb.frozen (hlt _ hin)]
      exact hz b off hin
    · intro ha
      have := hn ha
      rw [hps] at this
      simpa using this
    · intro p hp _
      rw [hps]
      simpa using hp
end
end Go.Av
set_option maxRecDepth 100000
open Go in
theorem Go.Av.lit_i64 {n : Int} (h : (Lit.int .i64 n).wf = true) : -9223372036854775808 ≤ n ∧ n ≤ 9223372036854775807 := by
  simpa [Lit.wf, IntKind.min, IntKind.max, IntKind.signed, IntKind.bits] using h
open Go in
theorem Go.Av.lit_u8 {n : Int} (h : (Lit.int .u8 n).wf = true) : 0 ≤ n ∧ n ≤ 255 := by
  simpa [Lit.wf, IntKind.min, IntKind.max, IntKind.signed, IntKind.bits] using h
namespace Go.Proofs.YtopmpdoigmenmaaDoor
open Go Go.Av Go.RowKit

/-- What the rows list gives what the contracts of Go's library ask. -/
theorem laid_of {l : List (String × DataW Unit)} {W : World} (hp : (l.filter fun x => x.2.handleName?.isSome) = []) (hL : laidMetH Tryd.prog l W) (hs : W.ShapedOpen Tryd.prog)
    (h1 : ("internal/strconv.uint64pow10", Rows.laid_internal_strconv_uint64pow10) ∈ l) (h2 : ("strconv.ErrSyntax", Rows.laid_strconv_ErrSyntax) ∈ l) (h3 : ("strconv.ErrRange", Rows.laid_strconv_ErrRange) ∈ l) : E.L W.heap.size W := by
  unfold laidMetH at hL
  rw [hp] at hL
  simp only at hL
  intro w hb
  have g1 : Tryd.prog.globalNamed "internal/strconv.uint64pow10" = some 3 := by kernel_rfl
  have g2 : Tryd.prog.globalNamed "strconv.ErrSyntax" = some 1 := by kernel_rfl
  have g3 : Tryd.prog.globalNamed "strconv.ErrRange" = some 2 := by kernel_rfl
  have t1 := tabIs_of_reads (k := .u64) (zs := Lib.pow10Tab) (t := 98) (e := 64) (n := 20) g1 (by kernel_rfl) (by kernel_rfl) (by kernel_rfl) (by kernel_rfl) (by kernel_rfl) (Lib.laidMet.reads hL h1)
  obtain ⟨tp2, p2, v2⟩ := sent_of_reads (t := 54) g2 (by kernel_rfl) rfl (Lib.laidMet.reads hL h2)
  obtain ⟨tp3, p3, v3⟩ := sent_of_reads (t := 54) g3 (by kernel_rfl) rfl (Lib.laidMet.reads hL h3)
  exact ⟨hs.keptBut (hb.frame (fun _ => False)) (fun _ h => h.elim), Go.Joins.var_stays g1 t1 hb (Nat.le_refl _), ⟨tp2, p2, Go.Joins.var_stays g2 v2 hb (Nat.le_refl _)⟩, ⟨tp3, p3, Go.Joins.var_stays g3 v3 hb (Nat.le_refl _)⟩⟩
end Go.Proofs.YtopmpdoigmenmaaDoor
