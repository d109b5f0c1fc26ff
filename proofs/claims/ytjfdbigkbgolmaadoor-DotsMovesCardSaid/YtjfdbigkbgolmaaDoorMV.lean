/-
  Chapter 29: the worlds of DotsMoves' walk: the ways, moved.
-/
import Derived.Test.YtjfdbigkbgolmaaDoorMC
import Derived.Test.YtjfdbigkbgolmaaDoorME
import Derived.Test.YtjfdbigkbgolmaaDoorRG

namespace Go.Proofs.YtjfdbigkbgolmaaDoor
set_option linter.unusedVariables false
set_option linter.unusedSimpArgs false
open Go.RowKit Go.Shelf

/-- ways that the call has made, in blocks from base on -/
structure LV (base : Nat) (W0 : World) (v : Value) (ys : List Wy) (W : World) : Prop where
  below : Below base W0 W
  row : W.ownsRow base 42 8 v ys.length (ys.flatMap Wy.cellL)
  lines : ∀ y ∈ ys, W.ownsRow base 24 2 y.lv y.line.length (y.line.flatMap encS)
variable {base : Nat} {W0 W W' : World} {v : Value} {ys : List Wy}
theorem LV.grown (h : LV base W0 v ys W) (hg : W.grownBy W' none) (hb : base ≤ W.heap.size) : LV base W0 v ys W' :=
  ⟨h.below.grown hg hb (fun k e => by cases e), row_other h.row hg (by simp), fun y hy => row_other (h.lines y hy) hg (by simp)⟩
/-- .. with a way under way: its box, and its line -/
structure LP (base : Nat) (W0 : World) (v : Value) (ys : List Wy) (B : Nat) (c : Array Value) (lv : Value) (ps : List Spot) (W : World) : Prop where
  ways : LV base W0 v ys W
  box : Blk W B c 42
  far : base ≤ B
  own : v.ownBlock ≠ some B
  line : W.ownsRow base 24 2 lv ps.length (ps.flatMap encS)
  apart : ∀ y ∈ ys, ∀ r, lv.ownBlock = some r → y.lv.ownBlock ≠ some r
variable {B : Nat} {c : Array Value} {lv : Value} {ps : List Spot}
theorem LP.le (h : LP base W0 v ys B c lv ps W) : base ≤ W.heap.size := Nat.le_of_lt (Nat.lt_of_le_of_lt h.far h.box.lt)
theorem LP.grown (h : LP base W0 v ys B c lv ps W) (hg : W.grownBy W' none) : LP base W0 v ys B c lv ps W' :=
  ⟨h.ways.grown hg h.le, h.box.kept hg (by simp), h.far, h.own, row_other h.line hg (by simp), h.apart⟩
theorem LP.alloc (h : LP base W0 v ys B c lv ps W) (o : Obj) : LP base W0 v ys B c lv ps (W.alloc o) := h.grown (World.grownBy_alloc W o none)
theorem LP.drew (h : LP base W0 v ys B c lv ps W) : LP base W0 v ys B c lv ps W.drew := h.grown (drew_grown W)
/-- a way's box, laid -/
theorem LP.start (h : LV base W0 v ys W) (hb : base ≤ W.heap.size) (c : Array Value) : LP base W0 v ys W.heap.size c (.slice none 0 0) [] (W.alloc (.cells c 42)) :=
  ⟨h.grown (World.grownBy_alloc W _ none) hb, Blk.new _ _ _, hb, fun e => by have := (h.row.lt _ e).2; omega, World.ownsRow_nil _ _ _ _, by simp [Value.ownBlock]⟩
/-- the line's append -/
theorem LP.appended {g cap : Nat} {p : Spot} (h : LP base W0 v ys B c lv ps W) (hg : W.grownBy W' lv.ownBlock) (hown : W'.ownsRow base 24 2 (.slice (some ⟨g, 0, none⟩) (ps.length + 1) cap) (ps.length + 1) (ps.flatMap encS ++ encS p))
    (hat : lv.ownBlock = some g ∨ g = W.heap.size) : LP base W0 v ys B c (.slice (some ⟨g, 0, none⟩) (ps.length + 1) cap) (ps ++ [p]) W' := by
  refine ⟨⟨h.ways.below.grown hg h.le (fun r e => (h.line.lt r e).1), row_other h.ways.row hg (rows_apart h.ways.row h.line (by decide)), fun y hy => row_other (h.ways.lines y hy) hg (h.apart y hy)⟩, h.box.kept hg (blk_apart h.line h.box (by decide)), h.far, h.own, ?_, fun y hy r e => ?_⟩
  · rw [List.length_append, List.flatMap_append]
    simpa using hown
  · cases e
    rcases hat with hat | rfl
    · exact h.apart y hy _ hat
    · exact fun e => Nat.lt_irrefl _ ((h.ways.lines y hy).lt _ e).2
/-- w.Line = line -/
theorem LP.set (h : LP base W0 v ys B c lv ps W) (i : Nat) (x : Value) : LP base W0 v ys B (c.setIfInBounds i x) lv ps (W.setCell ⟨B, i, none⟩ x) := by
  have hg := setCell_grown0 W B i x
  exact ⟨⟨h.ways.below.grown hg h.le (fun r e => by cases e; exact h.far), row_other h.ways.row hg (fun r e => by cases e; exact h.own), fun y hy => row_other (h.ways.lines y hy) hg (fun r e => by cases e; exact blk_apart (h.ways.lines y hy) h.box (by decide))⟩,
    h.box.set i x, h.far, h.own, row_other h.line hg (fun r e => by cases e; exact blk_apart h.line h.box (by decide)), h.apart⟩
/-- moved = append(moved, w) -/
theorem LP.outed {g cap : Nat} {W2 : World} {o : Obj} {y : Wy} (h : LP base W0 v ys B c lv ps W) (hg : (W.alloc o).grownBy W2 v.ownBlock) (hy : y.lv = lv) (hp : y.line = ps)
    (hown : W2.ownsRow base 42 8 (.slice (some ⟨g, 0, none⟩) (ys.length + 1) cap) (ys.length + 1) (ys.flatMap Wy.cellL ++ y.cellL)) :
    LV base W0 (.slice (some ⟨g, 0, none⟩) (ys.length + 1) cap) (ys ++ [y]) W2 := by
  have hA := h.alloc o
  refine ⟨hA.ways.below.grown hg hA.le (fun r e => (h.ways.row.lt r e).1), ?_, fun z hz => ?_⟩
  · rw [List.length_append, List.flatMap_append]
    simpa using hown
  · rcases List.mem_append.1 hz with hz | hz
    · exact row_other (hA.ways.lines z hz) hg (rows_apart (hA.ways.lines z hz) hA.ways.row (by decide))
    · obtain rfl := List.mem_singleton.1 hz
      rw [hy, hp]
      exact row_other hA.line hg (rows_apart hA.line hA.ways.row (by decide))

theorem LP.lvslice (h : LP base W0 v ys B c lv ps W) : ∃ a cap, lv = .slice a ps.length cap := by
  rcases h.line.2 with ⟨rfl, h0⟩ | ⟨g, cap, cur, rfl, _⟩
  · exact ⟨none, 0, by rw [h0]⟩
  · exact ⟨_, _, rfl⟩
/-- the keys of the ways moved, one more -/
theorem moved_snoc (d : Spot) (ws : List Wy) (t : Nat) (h : t < ws.length) : ((ws.drop t).map fun y => moveW d y.key).reverse = ((ws.drop (t + 1)).map fun y => moveW d y.key).reverse ++ [moveW d ws[t].key] := by
  rw [List.drop_eq_getElem_cons h, List.map_cons, List.reverse_cons]
theorem take_move (d : Spot) (l : List Spot) (k : Nat) (h : k < l.length) : (l.take (k + 1)).map (moveP d) = (l.take k).map (moveP d) ++ [moveP d l[k]] := by
  rw [List.take_add_one, List.getElem?_eq_getElem h, List.map_append]
  rfl
end Go.Proofs.YtjfdbigkbgolmaaDoor
