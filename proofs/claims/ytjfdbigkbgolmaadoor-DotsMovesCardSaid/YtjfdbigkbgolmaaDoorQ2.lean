/-
  Chapter 29: the symbols.
-/
import Derived.Test.YtjfdbigkbgolmaaDoorG1
import Derived.Test.YtjfdbigkbgolmaaDoorTail
import Derived.Deep.WholeRow
import Derived.Laws.Rows
namespace Go.Proofs.YtjfdbigkbgolmaaDoor
set_option linter.unusedVariables false
set_option linter.unusedSimpArgs false
open Go.RowKit Go.Shelf
attribute [local go_sem] Oper.semAt_some

def symC : Array Value := #[.bool true, .bool true, .bool true, .bool true, .bool false, .bool true, .bool true, .bool true, .bool true, .bool false, .bool true, .bool false, .bool true, .bool true, .bool true, .bool false, .bool true, .bool false, .bool true, .bool false, .bool true, .bool false, .bool true, .bool false, .bool true, .bool false, .bool true, .bool true, .bool true, .bool true, .bool true, .bool true, .bool true, .bool true, .bool true, .bool true, .bool false, .bool false, .bool false, .bool true, .bool true, .bool true, .bool false, .bool false, .bool false, .bool false, .bool true, .bool false, .bool false, .bool true, .bool false, .bool false, .bool true, .bool false, .bool true, .bool false, .bool true, .bool false, .bool false, .bool false, .bool true, .bool false, .bool true]
def symZ : Array Value := #[.bool false, .bool false, .bool false, .bool false, .bool false, .bool false, .bool false, .bool false, .bool false, .bool false, .bool false, .bool false, .bool false, .bool false, .bool false, .bool false, .bool false, .bool false, .bool false, .bool false, .bool false, .bool false, .bool false, .bool false, .bool false, .bool false, .bool false, .bool false, .bool false, .bool false, .bool false, .bool false, .bool false, .bool false, .bool false, .bool false, .bool false, .bool false, .bool false, .bool false, .bool false, .bool false, .bool false, .bool false, .bool false, .bool false, .bool false, .bool false, .bool false, .bool false, .bool false, .bool false, .bool false, .bool false, .bool false, .bool false, .bool false, .bool false, .bool false, .bool false, .bool false, .bool false, .bool false]

theorem wpList_build_as {P : Program} {ops : Array Oper} {rest : List Oper} {o : Oper} {a : Act} {w : World} {Q : Exit → Act → World → Prop} (hg : o.guard = none) (t : TypeId) (parts : Array (Nat × Operand)) (ho : o.op = .build t parts) (cells : Array Value)
    (hc : P.built t (parts.map fun (i, x) => (i, a.eval x)).toList = some cells) (h : wpList P ops Q rest (a.put o.dst (.agg cells)) w) : wpList P ops Q (o :: rest) a w :=
  wpList_build hg t parts ho (by rw [hc]; rfl) (by rw [hc]; exact h)

set_option maxRecDepth 100000 in
set_option maxHeartbeats 2000000 in
theorem symbols_any (w : World) : Calls Tryd.prog 36 #[] w fun e w' => e = .returned (.agg symC) ∧ Below w.heap.size w w' := by
  have hi : (Tryd.prog.info? 84).map (·.size) = some symC.size := by kernel_rfl
  have hz : ∀ w, (zeroValue 84).run Tryd.prog w = .ok (.agg symZ) w := fun w => by kernel_rfl
  go_enter Tryd.func36, Tryd.ntmps36
  go_wp2_with (first | (refine wpList_build_as (by rfl) 84 _ (by rfl) symC (by kernel_rfl) ?_) | (refine wpList_store_row (by rfl) 84 _ _ (by rfl) w.heap.size symC (by rfl) (by rfl) 84 symZ (heap_alloc_last w _) (by kernel_rfl) (by rfl) (by decide +kernel) ?_; rw [World.setRow_alloc_new]))
  exact bodyPost_ret (results_cell_row (by rfl) _ _ w.heap.size 84 symC (0, 0) _ (by rfl) (heap_alloc_last w _) Tryd.underlying84 (by rfl) hi) rfl ⟨rfl, (by repeat' (first | with_reducible exact Below.refl _ _ | with_reducible exact Nat.le_refl _ | with_reducible assumption | with_reducible refine Go.below_growBy' ?_ ?_ _ | with_reducible refine Below.alloc ?_ ?_ _ | with_reducible refine Below.setCell ?_ ?_ _ | with_reducible refine Below.drew ?_ | with_reducible refine Go.le_alloc ?_ | with_reducible refine Go.le_growBy ?_ | with_reducible refine Go.le_setCell ?_ | with_reducible refine Go.le_drew ?_ | omega | (dsimp only; omega)))⟩
end Go.Proofs.YtjfdbigkbgolmaaDoor
