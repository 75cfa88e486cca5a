/- Contracts of Go's library that hand over new slices. -/
import Derived.Test.YtopmpdoigmenmaaDoorAl
import Derived.Test.YtopmpdoigmenmaaDoorLib
import Derived.Test.YtopmpdoigmenmaaDoorPs
import Derived.Shelf.Strings.SplitShaped
set_option maxRecDepth 100000
set_option linter.unusedVariables false
namespace Go.Proofs.YtopmpdoigmenmaaDoor
open Go Go.Av Go.RowKit Go.Proofs Go.Pl

/-- A contract over values alone that hands over a new row of strings. -/
theorem acall_of_newStrings {f : FuncId} {st : List AObj} {args : List AV} {vals : Array Value} {xs : List Bytes} {T : TypeId} (ha : args = vals.toList.map .v) (hne : xs ≠ [])
    (h : ∀ B0 w0 w, E.L B0 w0 → Below B0 w0 w → Calls E.P f vals w fun e w' => e = .returned (.slice (some ⟨w.heap.size, 0, none⟩) xs.length xs.length) ∧ w' = w.alloc (.cells (xs.map fun l => Value.string ⟨l.toArray⟩).toArray T)) :
    ACall E f args st fun r st' => r = .sl 1 (xs.map fun l => Sv l) none ∧ st' = st := by
  subst ha
  refine ⟨fun B0 w0 G vs w hL hA hR => ?_⟩
  have hv : vs = vals := by
    have hs : vs.size = vals.size := by have := hR.1; simpa using this.symm
    apply Array.ext hs
    intro i h1 h2
    have := hR.2 i (.v vals[i]) vs[i] (by simp [h2]) (by simp [h1])
    generalize vs[i] = y at this
    cases this
    rfl
  subst hv
  refine (h B0 w0 w hL hA.below).mono ?_
  rintro e w' ⟨rfl, rfl⟩
  obtain ⟨hle, hA'⟩ := hA.newPub T (xs.map fun l => Value.string ⟨l.toArray⟩).toArray (0, 0) (xs.map fun l => Value.string ⟨l.toArray⟩) (fun i y hy => by simpa using hy)
  refine ⟨_, _, _, st, rfl, hle, hA', ?_, rfl, rfl⟩
  have hfl : flat (xs.map fun l => Sv l) = xs.map fun l => Sv l := by
    clear hne h hle hA'
    induction xs with
    | nil => rfl
    | cons a xs ih => rw [List.map_cons, flat_cons, ih]; rfl
  have := Rel.sl (G := G.publish w.heap.size (xs.map fun l => Value.string ⟨l.toArray⟩)) 1 (xs.map fun l => Sv l) none w.heap.size 0 xs.length (xs.map fun l => Value.string ⟨l.toArray⟩) (by simp [Gh.publish]) (fun x hx => by
    simp only [List.mem_map] at hx
    obtain ⟨l, _, rfl⟩ := hx
    rfl) (by rw [hfl]; simp) (fun i x y h1 h2 => by
    rw [hfl, List.getElem?_map] at h1
    rw [Nat.zero_add, List.getElem?_map] at h2
    cases hx : xs[i]? with
    | none => rw [hx] at h1; simp at h1
    | some l =>
      rw [hx] at h1 h2
      simp at h1 h2
      subst h1; subst h2
      exact .v _) (fun t ht => by simp at ht)
  simpa using this
theorem split10_c (l : List UInt8) (st : List AObj) (hl : l.length < 4294967281) : ACall E 40 [Sv l, Sv [10]] st fun r st' => r = .sl 1 ((partsOf l).map fun x => Sv x) none ∧ st' = st := by
  have hd := Lib.splitB_data ⟨#[10]⟩ 0 (Lib.countB ⟨l.toArray⟩ ⟨#[10]⟩) ⟨l.toArray⟩
  have hs : Lib.splitK [10] 0 (Lib.count l [10]) l = partsOf l := split10 _ l (Nat.le_refl _)
  have hn := Lib.splitB_all ⟨#[10]⟩ (by simp [ByteArray.size]) 0 _ ⟨l.toArray⟩ rfl
  have hd2 : (Lib.splitB ⟨#[10]⟩ 0 (Lib.countB ⟨l.toArray⟩ ⟨#[10]⟩) ⟨l.toArray⟩).map (·.data.toList) = partsOf l := hd.trans hs
  have hlen : (partsOf l).length = Lib.countB ⟨l.toArray⟩ ⟨#[10]⟩ + 1 := by rw [← hd2, List.length_map, hn]
  refine acall_of_newStrings (T := 9) (vals := #[.string ⟨l.toArray⟩, .string ⟨#[10]⟩]) rfl (fun e => by rw [e] at hlen; simp at hlen) fun _ _ w hL hb => (Tryd.strings_Split_shaped ⟨l.toArray⟩ ⟨#[10]⟩ w (hL w hb).shaped (by simpa [ByteArray.size] using hl) (by simp [ByteArray.size])).mono fun e w' ⟨h1, h2⟩ => ?_
  refine ⟨by rw [h1, hlen], ?_⟩
  rw [h2, ← hd2, List.map_map]
  rfl
end Go.Proofs.YtopmpdoigmenmaaDoor
