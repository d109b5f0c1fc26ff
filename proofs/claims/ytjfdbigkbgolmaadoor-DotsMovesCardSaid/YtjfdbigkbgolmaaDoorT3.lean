/-
  Chapter 29: Least: it does not depend on the order, it is 0 exactly if both have a common dot, and more dots are not farther away.
-/
import Derived.Test.YtjfdbigkbgolmaaDoorT1
namespace Go.Proofs.YtjfdbigkbgolmaaDoor
set_option linter.unusedVariables false
set_option linter.unusedSimpArgs false
open Go.RowKit Go.Shelf

theorem stepL_le (m k : Int) (d e : Dt) : stepL m d e ≤ k ↔ m ≤ k ∨ apD d e ≤ k := by
  unfold stepL
  split <;> omega
theorem leastI_le (d : Dt) (k : Int) : ∀ (b : List Dt) (m : Int), leastI d m b ≤ k ↔ m ≤ k ∨ ∃ e ∈ b, apD d e ≤ k
  | [], m => by simp [leastI]
  | e :: b, m => by
    have ih := leastI_le d k b (stepL m d e)
    have h : leastI d m (e :: b) = leastI d (stepL m d e) b := rfl
    rw [h, ih, stepL_le]
    simp only [List.mem_cons, exists_eq_or_imp, or_assoc]
theorem leastG_le (b : List Dt) (k : Int) : ∀ (a : List Dt) (m : Int), a.foldl (fun m d => leastI d m b) m ≤ k ↔ m ≤ k ∨ ∃ d ∈ a, ∃ e ∈ b, apD d e ≤ k
  | [], m => by simp
  | d :: a, m => by
    have ih := leastG_le b k a (leastI d m b)
    simp only [List.foldl_cons]
    rw [ih, leastI_le]
    simp only [List.mem_cons, exists_eq_or_imp, or_assoc]
theorem leastF_le {a b : List Dt} {k : Int} : leastF a b ≤ k ↔ 80 ≤ k ∨ ∃ d ∈ a, ∃ e ∈ b, apD d e ≤ k := leastG_le b k a 80
theorem apF_comm (x y : Int) : apF x y = apF y x := by unfold apF; repeat' split; all_goals omega
theorem apD_comm (d e : Dt) : apD d e = apD e d := by unfold apD; rw [apF_comm d.x, apF_comm d.y]
theorem apF_zero {x y : Int} : apF x y ≤ 0 ↔ x = y := by unfold apF; repeat' split; all_goals omega
theorem apD_zero {d e : Dt} : apD d e ≤ 0 ↔ d.x = e.x ∧ d.y = e.y := by
  rw [← apF_zero, ← apF_zero]
  unfold apD
  split <;> omega
theorem leastF_comm (a b : List Dt) : leastF a b = leastF b a := by
  have h : ∀ a b, leastF a b ≤ leastF b a := fun a b => by
    rcases leastF_le.1 (Int.le_refl (leastF b a)) with h | ⟨d, hd, e, he, h⟩
    · exact leastF_le.2 (.inl h)
    · exact leastF_le.2 (.inr ⟨e, he, d, hd, by rw [apD_comm]; exact h⟩)
  exact Int.le_antisymm (h a b) (h b a)
/-- whether two lists have a common dot -/
def commonF (a b : List Dt) : Bool := a.any fun d => b.any fun e => decide (d.x = e.x) && decide (d.y = e.y)
theorem leastF_zero (a b : List Dt) : decide (leastF a b = 0) = commonF a b := by
  rw [Bool.eq_iff_iff]
  have h0 := (leastF_in b a).1
  have h := leastF_le (a := a) (b := b) (k := 0)
  simp only [apD_zero] at h
  simp only [commonF, List.any_eq_true, Bool.and_eq_true, decide_eq_true_eq]
  constructor
  · intro h1
    rcases h.1 (by omega) with h2 | h2
    · omega
    · exact h2
  · intro h1
    have := h.2 (.inr h1)
    omega
theorem leastF_more (a b c : List Dt) : leastF a (b ++ c) ≤ leastF a b := by
  rcases leastF_le.1 (Int.le_refl (leastF a b)) with h | ⟨d, hd, e, he, h⟩
  · exact leastF_le.2 (.inl h)
  · exact leastF_le.2 (.inr ⟨d, hd, e, List.mem_append.2 (.inl he), h⟩)
theorem leastF_nil (a : List Dt) : leastF a [] = 80 := by
  rcases (leastF_le (a := a) (b := [])).1 (Int.le_refl _) with h | ⟨d, hd, e, he, h⟩
  · have := (leastF_in [] a).2; omega
  · simp at he
theorem leastF_nil' (b : List Dt) : leastF [] b = 80 := rfl
end Go.Proofs.YtjfdbigkbgolmaaDoor
