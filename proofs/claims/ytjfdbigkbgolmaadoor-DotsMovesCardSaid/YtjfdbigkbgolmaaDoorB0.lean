/-
  A block of cells: what keeps it; a slice's own row likewise.
-/
import Derived.Test.YtjfdbigkbgolmaaDoorK1
import Derived.RangeFuncWrites
import Derived.RangeFuncFrom
namespace Go.Proofs.YtjfdbigkbgolmaaDoor
set_option linter.unusedVariables false
set_option linter.unusedSimpArgs false
open Go.RowKit Go.Shelf
/-- block B holds these cells, none frozen -/
def Blk (W : World) (B : Nat) (c : Array Value) (t : TypeId) : Prop := W.heap[B]? = some (.cells c t (0, 0))
theorem Blk.kept {W W' : World} {B : Nat} {c : Array Value} {t : TypeId} {row : Option Nat} (h : Blk W B c t) (hg : W.grownBy W' row) (hr : row ≠ some B) : Blk W' B c t := by
  exact (hg.block B (Array.getElem?_eq_some_iff.1 h).1 (fun e => hr e.symm)).trans h
theorem Blk.new (W : World) (c : Array Value) (t : TypeId) : Blk (W.alloc (.cells c t)) W.heap.size c t := by unfold Blk World.alloc; simp
theorem Blk.alloc {W : World} {B : Nat} {c : Array Value} {t : TypeId} (h : Blk W B c t) (o : Obj) : Blk (W.alloc o) B c t := h.kept (World.grownBy_alloc W o none) (by simp)
theorem Blk.lt {W : World} {B : Nat} {c : Array Value} {t : TypeId} (h : Blk W B c t) : B < W.heap.size := (Array.getElem?_eq_some_iff.1 h).1
theorem Blk.cell {W : World} {B : Nat} {c : Array Value} {t : TypeId} (h : Blk W B c t) (i : Nat) : W.cell? ⟨B, i, none⟩ = c[i]? := cell_of_block h i
theorem Blk.frozen {W : World} {B : Nat} {c : Array Value} {t : TypeId} (h : Blk W B c t) (i : Nat) : W.frozen? ⟨B, i, none⟩ = false := by
  unfold World.frozen?; rw [show W.heap[B]? = _ from h]; simp
theorem Blk.below {W W' : World} {B n₀ : Nat} {c : Array Value} {t : TypeId} (h : Blk W B c t) (hb : Below n₀ W W') (hB : B < n₀) : Blk W' B c t := (hb.block B hB).trans h
theorem Blk.set {W : World} {B : Nat} {c : Array Value} {t : TypeId} (h : Blk W B c t) (i : Nat) (v : Value) : Blk (W.setCell ⟨B, i, none⟩ v) B (c.setIfInBounds i v) t := by
  unfold Blk at *
  unfold World.setCell
  simp [Array.getElem?_modify, h]
theorem Blk.other {W : World} {B B' : Nat} {c : Array Value} {t : TypeId} (h : Blk W B c t) (hne : B ≠ B') (i : Nat) (v : Value) : Blk (W.setCell ⟨B', i, none⟩ v) B c t := by
  unfold Blk at *
  rw [Below.heap_setCell _ _ _ _ (by simpa using hne)]
  exact h
theorem Blk.grow {W : World} {B : Nat} {c : Array Value} {t : TypeId} (h : Blk W B c t) (p : Growth) : Blk (W.growBy p) B c t := h.kept (grownBy_growBy W p) (by simp)
theorem Blk.drew {W : World} {B : Nat} {c : Array Value} {t : TypeId} (h : Blk W B c t) : Blk W.drew B c t := h
theorem blk_own {β : Type} (B : Nat) (t : TypeId) (f : β → Array Value) : Own (fun s W => Blk W B (f s) t) := fun s X Y row hs hg hrow =>
  hs.kept hg (fun e' => by obtain ⟨o, ho, hc⟩ := hrow B e'; rw [show X.heap[B]? = _ from hs] at ho; cases ho; cases hc)


theorem ownsRow_turn {W W' : World} {row : Option Nat} {base : Nat} {e : TypeId} {size : Nat} {v : Value} {k : Nat} {xs : List Value} (h : W.ownsRow base e size v k xs) (hg : W.grownBy W' row)
    (hrow : ∀ r, row = some r → ∃ o : Obj, W.heap[r]? = some o ∧ ∀ cur, o ≠ .cells cur e (0, 0)) : W'.ownsRow base e size v k xs := by
  refine h.kept hg ?_
  rcases h.2 with ⟨rfl, _⟩ | ⟨g, cap, cur, rfl, _, hgb, _⟩
  · exact .inl rfl
  · refine .inr fun e' => ?_
    obtain ⟨o, ho, hw⟩ := hrow g (by simpa [Value.ownBlock] using e'.symm)
    rw [hgb] at ho; cases ho; exact hw cur rfl
theorem ownsRow_cells {W : World} {base : Nat} {e : TypeId} {size : Nat} {v : Value} {k : Nat} {xs : List Value} (h : W.ownsRow base e size v k xs) : ∀ (j : Nat) (o : Obj), v.ownBlock = some j → W.heap[j]? = some o → o.isCells = true := by
  intro j o hj ho
  rcases h.2 with ⟨rfl, _⟩ | ⟨g, cap, cur, rfl, _, hgb, _⟩
  · simp [Value.ownBlock] at hj
  · have : g = j := by simpa [Value.ownBlock] using hj
    subst this; rw [hgb] at ho; cases ho; rfl
/-- a block of another type is not the row -/
theorem ownsRow_other {W : World} {base : Nat} {e t : TypeId} {size : Nat} {v : Value} {k : Nat} {xs : List Value} (h : W.ownsRow base e size v k xs) {B : Nat} {c : Array Value} (hb : Blk W B c t) (hne : t ≠ e) : v.ownBlock ≠ some B := by
  intro hj
  rcases h.2 with ⟨rfl, _⟩ | ⟨g, cap, cur, rfl, _, hgb, _⟩
  · simp [Value.ownBlock] at hj
  · have : g = B := by simpa [Value.ownBlock] using hj
    subst this
    rw [show W.heap[g]? = _ from hb] at hgb
    cases hgb
    exact hne rfl
end Go.Proofs.YtjfdbigkbgolmaaDoor
