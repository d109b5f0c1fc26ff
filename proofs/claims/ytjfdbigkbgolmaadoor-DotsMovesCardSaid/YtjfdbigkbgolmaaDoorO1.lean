/-
  A law's argument []int, opened: a slice value that holds ints.
-/
import Derived.Test.YtjfdbigkbgolmaaDoorO2
import Derived.Test.YtjfdbigkbgolmaaDoorN1
import Derived.ChangeSlices
namespace Go.Proofs.YtjfdbigkbgolmaaDoor
set_option linter.unusedVariables false
set_option linter.unusedSimpArgs false
open Go.RowKit Go.Shelf
section
variable {H : Type} {enc : TypeId × Value → H} {P : Program} {W : World} {base : Nat} {sp : Nat → Bool} {hd : Bool} {t e : TypeId} {v : Value}

theorem ints_arg (ht : P.underlying t = some (.slice e)) (he : P.underlying e = some (.int .i64)) (hc : P.cellsOf e = 1) (hv : ∀ cs, v ≠ .agg cs)
    (h : ∃ d p, DataW.Trod enc P W base sp hd t v d p) : ∃ xs, Ints W.heap.size W v xs := by
  obtain ⟨d, p, fuel, h⟩ := h
  have hcs : v.cells.toList = [v] := by cases v <;> first | rfl | exact absurd rfl (hv _)
  rw [hcs] at h
  rcases Go.ChangeShapes.open_ints ht he hc h with ⟨h1, -⟩ | ⟨a, len, cap, zs, h1, -, h2, -, h3, -, h4, h5⟩
  · obtain rfl : v = .slice none 0 0 := by simpa using h1
    exact ⟨[], _, _, rfl, fun j hj => by simp at hj⟩
  · obtain rfl : v = .slice (some a) len cap := by simpa using h1
    have hz : len ≤ zs.length := by rw [h3]; split <;> omega
    refine ⟨zs.take len, some a, cap, by rw [List.length_take, Nat.min_eq_left hz], fun j hj => ?_⟩
    have hj' : j < len := by rw [List.length_take] at hj; omega
    obtain ⟨b, off, rfl, h6⟩ := Go.ints_at h4 (by omega)
    have h7 := h6 j (by omega)
    have hg : zs.getD j 0 = zs[j] := by rw [List.getD_eq_getElem?_getD, List.getElem?_eq_getElem (by omega)]; rfl
    rw [List.getElem_take]
    rw [hg] at h7
    exact ⟨b, off, rfl, World.block_lt_of_cell? _ _ h7, lit_fits _ (h5 _ (List.getElem_mem _)), h7⟩
end
end Go.Proofs.YtjfdbigkbgolmaaDoor
