/-
  Chapter 29: the dots of a braille cell; digits.
-/
import Derived.Test.YtjfdbigkbgolmaaDoorG1
import Derived.Test.YtjfdbigkbgolmaaDoorTail
namespace Go.Proofs.YtjfdbigkbgolmaaDoor
set_option linter.unusedVariables false
set_option linter.unusedSimpArgs false
open Go.RowKit Go.Shelf
attribute [local go_sem] Oper.semAt_some

set_option maxRecDepth 100000 in
set_option maxHeartbeats 2000000 in
theorem bdots60 (w : World) : Calls Tryd.prog 39 #[.int .u8 60] w fun e w' => e = .returned (.agg #[.bool false, .bool false, .bool true, .bool true, .bool true, .bool true]) ∧ Below w.heap.size w w' := by
  have q0 : bits BinOp.and IntKind.u8 60 1 = 0 := by decide +kernel
  have q1 : bits BinOp.and IntKind.u8 60 2 = 0 := by decide +kernel
  have q2 : bits BinOp.and IntKind.u8 60 4 = 4 := by decide +kernel
  have q3 : bits BinOp.and IntKind.u8 60 8 = 8 := by decide +kernel
  have q4 : bits BinOp.and IntKind.u8 60 16 = 16 := by decide +kernel
  have q5 : bits BinOp.and IntKind.u8 60 32 = 32 := by decide +kernel
  go_enter Tryd.func39, Tryd.ntmps39
  go_wp2_with fail
  refine wp_loop_rounds 7 ?_
  rw [rounds_succ]
  go_wp2_with fail
  rw [rounds_succ]
  go_wp2_with fail
  rw [rounds_succ]
  go_wp2_with fail
  rw [rounds_succ]
  go_wp2_with fail
  rw [rounds_succ]
  go_wp2_with fail
  rw [rounds_succ]
  go_wp2_with fail
  rw [rounds_succ]
  go_wp2_with fail
  exact bodyPost_ret (v := .agg #[.bool false, .bool false, .bool true, .bool true, .bool true, .bool true]) (by simp [results, Tryd.results39, go_sem]) rfl ⟨rfl, (by repeat' (first | with_reducible exact Below.refl _ _ | with_reducible exact Nat.le_refl _ | with_reducible assumption | with_reducible refine Go.below_growBy' ?_ ?_ _ | with_reducible refine Below.alloc ?_ ?_ _ | with_reducible refine Below.setCell ?_ ?_ _ | with_reducible refine Below.drew ?_ | with_reducible refine Go.le_alloc ?_ | with_reducible refine Go.le_growBy ?_ | with_reducible refine Go.le_setCell ?_ | with_reducible refine Go.le_drew ?_ | omega | (dsimp only; omega)))⟩

set_option maxRecDepth 100000 in
set_option maxHeartbeats 2000000 in
theorem bdots1 (w : World) : Calls Tryd.prog 39 #[.int .u8 1] w fun e w' => e = .returned (.agg #[.bool true, .bool false, .bool false, .bool false, .bool false, .bool false]) ∧ Below w.heap.size w w' := by
  have q0 : bits BinOp.and IntKind.u8 1 1 = 1 := by decide +kernel
  have q1 : bits BinOp.and IntKind.u8 1 2 = 0 := by decide +kernel
  have q2 : bits BinOp.and IntKind.u8 1 4 = 0 := by decide +kernel
  have q3 : bits BinOp.and IntKind.u8 1 8 = 0 := by decide +kernel
  have q4 : bits BinOp.and IntKind.u8 1 16 = 0 := by decide +kernel
  have q5 : bits BinOp.and IntKind.u8 1 32 = 0 := by decide +kernel
  go_enter Tryd.func39, Tryd.ntmps39
  go_wp2_with fail
  refine wp_loop_rounds 7 ?_
  rw [rounds_succ]
  go_wp2_with fail
  rw [rounds_succ]
  go_wp2_with fail
  rw [rounds_succ]
  go_wp2_with fail
  rw [rounds_succ]
  go_wp2_with fail
  rw [rounds_succ]
  go_wp2_with fail
  rw [rounds_succ]
  go_wp2_with fail
  rw [rounds_succ]
  go_wp2_with fail
  exact bodyPost_ret (v := .agg #[.bool true, .bool false, .bool false, .bool false, .bool false, .bool false]) (by simp [results, Tryd.results39, go_sem]) rfl ⟨rfl, (by repeat' (first | with_reducible exact Below.refl _ _ | with_reducible exact Nat.le_refl _ | with_reducible assumption | with_reducible refine Go.below_growBy' ?_ ?_ _ | with_reducible refine Below.alloc ?_ ?_ _ | with_reducible refine Below.setCell ?_ ?_ _ | with_reducible refine Below.drew ?_ | with_reducible refine Go.le_alloc ?_ | with_reducible refine Go.le_growBy ?_ | with_reducible refine Go.le_setCell ?_ | with_reducible refine Go.le_drew ?_ | omega | (dsimp only; omega)))⟩

set_option maxRecDepth 100000 in
set_option maxHeartbeats 2000000 in
theorem bdots3 (w : World) : Calls Tryd.prog 39 #[.int .u8 3] w fun e w' => e = .returned (.agg #[.bool true, .bool true, .bool false, .bool false, .bool false, .bool false]) ∧ Below w.heap.size w w' := by
  have q0 : bits BinOp.and IntKind.u8 3 1 = 1 := by decide +kernel
  have q1 : bits BinOp.and IntKind.u8 3 2 = 2 := by decide +kernel
  have q2 : bits BinOp.and IntKind.u8 3 4 = 0 := by decide +kernel
  have q3 : bits BinOp.and IntKind.u8 3 8 = 0 := by decide +kernel
  have q4 : bits BinOp.and IntKind.u8 3 16 = 0 := by decide +kernel
  have q5 : bits BinOp.and IntKind.u8 3 32 = 0 := by decide +kernel
  go_enter Tryd.func39, Tryd.ntmps39
  go_wp2_with fail
  refine wp_loop_rounds 7 ?_
  rw [rounds_succ]
  go_wp2_with fail
  rw [rounds_succ]
  go_wp2_with fail
  rw [rounds_succ]
  go_wp2_with fail
  rw [rounds_succ]
  go_wp2_with fail
  rw [rounds_succ]
  go_wp2_with fail
  rw [rounds_succ]
  go_wp2_with fail
  rw [rounds_succ]
  go_wp2_with fail
  exact bodyPost_ret (v := .agg #[.bool true, .bool true, .bool false, .bool false, .bool false, .bool false]) (by simp [results, Tryd.results39, go_sem]) rfl ⟨rfl, (by repeat' (first | with_reducible exact Below.refl _ _ | with_reducible exact Nat.le_refl _ | with_reducible assumption | with_reducible refine Go.below_growBy' ?_ ?_ _ | with_reducible refine Below.alloc ?_ ?_ _ | with_reducible refine Below.setCell ?_ ?_ _ | with_reducible refine Below.drew ?_ | with_reducible refine Go.le_alloc ?_ | with_reducible refine Go.le_growBy ?_ | with_reducible refine Go.le_setCell ?_ | with_reducible refine Go.le_drew ?_ | omega | (dsimp only; omega)))⟩

theorem digit_any (c : Int) (b : Bool) (hb : (decide (48 ≤ c) && decide (c ≤ 57)) = b) (w : World) : Calls Tryd.prog 58 #[.int .u8 c] w fun e w' => e = .returned (.bool b) ∧ w = w' := by
  subst hb
  go_enter Tryd.func58, Tryd.ntmps58
  go_wp2_with fail
  all_goals
    go_ret
    exact ⟨by first | rfl | (congr 2; simp; omega), rfl⟩
end Go.Proofs.YtjfdbigkbgolmaaDoor
