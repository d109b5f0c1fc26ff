/-
  A law's argument []int, opened: a slice value whose cells are ints.
-/
import Derived.Test.YtfcmmclialeepaaD1
import Derived.Test.YtfcmmclialeepaaFrame
import Derived.ChangeSlices
import Derived.OpenShut
namespace Go.Proofs.Ytfcmmclialeepaa
open Go.RowKit Go.Shelf
section
variable {H : Type} {enc : TypeId × Value → H} {P : Program} {W : World} {base : Nat} {sp : Nat → Bool} {hd : Bool} {t e : TypeId} {v : Value}

theorem trodAll_head {ts : List TypeId} {vs : List Value} {ds : List (DataW H)} {ps : List MemPlace} (h : DataW.TrodAll enc P W base sp hd (t :: ts) (v :: vs) ds ps) : ∃ d p, DataW.Trod enc P W base sp hd t v d p := by
  cases ds with
  | nil => exact h.elim
  | cons d ds => obtain ⟨p, q, h1, -, -⟩ := h; exact ⟨d, p, h1⟩

theorem okWide_slice {r : Reach} (ht : P.underlying t = some (.slice e)) (h : Value.okWide P W r base t v) : ∀ cs, v ≠ .agg cs := by
  intro cs hcs
  subst hcs
  simp [Value.okWide, ht, Cell.okWide, Cell.ok] at h

theorem lit_fits (z : Int) (h : (Lit.int .i64 z).wf = true) : fits z := by
  simp [Lit.wf, IntKind.min, IntKind.max, IntKind.signed, IntKind.bits] at h
  exact ⟨by omega, by omega⟩

theorem ints_arg (ht : P.underlying t = some (.slice e)) (he : P.underlying e = some (.int .i64)) (hc : P.cellsOf e = 1) (hv : ∀ cs, v ≠ .agg cs)
    (h : ∃ d p, DataW.Trod enc P W base sp hd t v d p) : ∃ a len cap, v = .slice a len cap ∧ Ints W.heap.size W v len := by
  obtain ⟨d, p, fuel, h⟩ := h
  have hcs : v.cells.toList = [v] := by cases v <;> first | rfl | exact absurd rfl (hv _)
  rw [hcs] at h
  rcases Go.ChangeShapes.open_ints ht he hc h with ⟨h1, -⟩ | ⟨a, len, cap, zs, h1, -, h2, -, h3, -, h4, h5⟩
  · obtain rfl : v = .slice none 0 0 := by simpa using h1
    exact ⟨_, _, _, rfl, _, _, rfl, .inl rfl⟩
  · obtain rfl : v = .slice (some a) len cap := by simpa using h1
    refine ⟨_, _, _, rfl, _, _, rfl, ?_⟩
    by_cases hl : len = 0
    · exact .inl hl
    · have hz : len ≤ zs.length := by rw [h3]; split <;> omega
      obtain ⟨b, off, rfl, h6⟩ := Go.ints_at h4 (by omega)
      refine .inr ⟨b, off, rfl, ?_, fun j hj => ⟨_, ?_, h6 j (by omega)⟩⟩
      · exact World.block_lt_of_cell? _ _ (h6 0 (by omega))
      · have hm : zs.getD j 0 ∈ zs := by
          rw [List.getD_eq_getElem?_getD, List.getElem?_eq_getElem (by omega : j < zs.length)]
          exact List.getElem_mem _
        exact lit_fits _ (h5 _ hm)
end
end Go.Proofs.Ytfcmmclialeepaa
