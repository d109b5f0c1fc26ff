/-
  Chapter 29: the dots of the cells of digits (braille.Dots, hachureref28.Dots).
-/
import Derived.Test.YtjfdbigkbgolmaaGreatDoorZf

namespace Go.Proofs.YtjfdbigkbgolmaaGreatDoor
set_option linter.unusedVariables false
set_option linter.unusedSimpArgs false
open Go.RowKit Go.Shelf
attribute [local go_sem] Oper.semAt_some

/-- dot n of a cell -/
def dotB (c n : Nat) : Bool := c / 2 ^ n % 2 == 1
set_option maxRecDepth 100000 in
set_option maxHeartbeats 2000000 in
theorem cd_60 (w : World) : Calls Tryz.prog 32 #[.int .u8 60] w fun e w' => e = .returned (.agg #[.bool false, .bool false, .bool true, .bool true, .bool true, .bool true]) ∧ Below w.heap.size w w' := by
  have q0 : bits BinOp.and IntKind.u8 60 1 = 0 := by decide +kernel
  have q1 : bits BinOp.and IntKind.u8 60 2 = 0 := by decide +kernel
  have q2 : bits BinOp.and IntKind.u8 60 4 = 4 := by decide +kernel
  have q3 : bits BinOp.and IntKind.u8 60 8 = 8 := by decide +kernel
  have q4 : bits BinOp.and IntKind.u8 60 16 = 16 := by decide +kernel
  have q5 : bits BinOp.and IntKind.u8 60 32 = 32 := by decide +kernel
  go_enter Tryz.func32, Tryz.ntmps32
  go_wp2_with fail
  refine wp_loop_rounds 7 ?_
  rw [rounds_succ]
  go_wp2_with fail
  rw [rounds_succ]
  go_wp2_with fail
  rw [rounds_succ]
  go_wp2_with fail
  rw [rounds_succ]
  go_wp2_with fail
  rw [rounds_succ]
  go_wp2_with fail
  rw [rounds_succ]
  go_wp2_with fail
  rw [rounds_succ]
  go_wp2_with fail
  exact bodyPost_ret (v := .agg #[.bool false, .bool false, .bool true, .bool true, .bool true, .bool true]) (by simp [results, Tryz.results32, go_sem]) rfl ⟨rfl, (by repeat' (first | with_reducible exact Below.refl _ _ | with_reducible exact Nat.le_refl _ | with_reducible assumption | with_reducible refine Go.below_growBy' ?_ ?_ _ | with_reducible refine Below.alloc ?_ ?_ _ | with_reducible refine Below.setCell ?_ ?_ _ | with_reducible refine Below.drew ?_ | with_reducible refine Go.le_alloc ?_ | with_reducible refine Go.le_growBy ?_ | with_reducible refine Go.le_setCell ?_ | with_reducible refine Go.le_drew ?_ | omega | (dsimp only; omega)))⟩

set_option maxRecDepth 100000 in
set_option maxHeartbeats 2000000 in
theorem cd_26 (w : World) : Calls Tryz.prog 32 #[.int .u8 26] w fun e w' => e = .returned (.agg #[.bool false, .bool true, .bool false, .bool true, .bool true, .bool false]) ∧ Below w.heap.size w w' := by
  have q0 : bits BinOp.and IntKind.u8 26 1 = 0 := by decide +kernel
  have q1 : bits BinOp.and IntKind.u8 26 2 = 2 := by decide +kernel
  have q2 : bits BinOp.and IntKind.u8 26 4 = 0 := by decide +kernel
  have q3 : bits BinOp.and IntKind.u8 26 8 = 8 := by decide +kernel
  have q4 : bits BinOp.and IntKind.u8 26 16 = 16 := by decide +kernel
  have q5 : bits BinOp.and IntKind.u8 26 32 = 0 := by decide +kernel
  go_enter Tryz.func32, Tryz.ntmps32
  go_wp2_with fail
  refine wp_loop_rounds 7 ?_
  rw [rounds_succ]
  go_wp2_with fail
  rw [rounds_succ]
  go_wp2_with fail
  rw [rounds_succ]
  go_wp2_with fail
  rw [rounds_succ]
  go_wp2_with fail
  rw [rounds_succ]
  go_wp2_with fail
  rw [rounds_succ]
  go_wp2_with fail
  rw [rounds_succ]
  go_wp2_with fail
  exact bodyPost_ret (v := .agg #[.bool false, .bool true, .bool false, .bool true, .bool true, .bool false]) (by simp [results, Tryz.results32, go_sem]) rfl ⟨rfl, (by repeat' (first | with_reducible exact Below.refl _ _ | with_reducible exact Nat.le_refl _ | with_reducible assumption | with_reducible refine Go.below_growBy' ?_ ?_ _ | with_reducible refine Below.alloc ?_ ?_ _ | with_reducible refine Below.setCell ?_ ?_ _ | with_reducible refine Below.drew ?_ | with_reducible refine Go.le_alloc ?_ | with_reducible refine Go.le_growBy ?_ | with_reducible refine Go.le_setCell ?_ | with_reducible refine Go.le_drew ?_ | omega | (dsimp only; omega)))⟩

set_option maxRecDepth 100000 in
set_option maxHeartbeats 2000000 in
theorem cd_1 (w : World) : Calls Tryz.prog 32 #[.int .u8 1] w fun e w' => e = .returned (.agg #[.bool true, .bool false, .bool false, .bool false, .bool false, .bool false]) ∧ Below w.heap.size w w' := by
  have q0 : bits BinOp.and IntKind.u8 1 1 = 1 := by decide +kernel
  have q1 : bits BinOp.and IntKind.u8 1 2 = 0 := by decide +kernel
  have q2 : bits BinOp.and IntKind.u8 1 4 = 0 := by decide +kernel
  have q3 : bits BinOp.and IntKind.u8 1 8 = 0 := by decide +kernel
  have q4 : bits BinOp.and IntKind.u8 1 16 = 0 := by decide +kernel
  have q5 : bits BinOp.and IntKind.u8 1 32 = 0 := by decide +kernel
  go_enter Tryz.func32, Tryz.ntmps32
  go_wp2_with fail
  refine wp_loop_rounds 7 ?_
  rw [rounds_succ]
  go_wp2_with fail
  rw [rounds_succ]
  go_wp2_with fail
  rw [rounds_succ]
  go_wp2_with fail
  rw [rounds_succ]
  go_wp2_with fail
  rw [rounds_succ]
  go_wp2_with fail
  rw [rounds_succ]
  go_wp2_with fail
  rw [rounds_succ]
  go_wp2_with fail
  exact bodyPost_ret (v := .agg #[.bool true, .bool false, .bool false, .bool false, .bool false, .bool false]) (by simp [results, Tryz.results32, go_sem]) rfl ⟨rfl, (by repeat' (first | with_reducible exact Below.refl _ _ | with_reducible exact Nat.le_refl _ | with_reducible assumption | with_reducible refine Go.below_growBy' ?_ ?_ _ | with_reducible refine Below.alloc ?_ ?_ _ | with_reducible refine Below.setCell ?_ ?_ _ | with_reducible refine Below.drew ?_ | with_reducible refine Go.le_alloc ?_ | with_reducible refine Go.le_growBy ?_ | with_reducible refine Go.le_setCell ?_ | with_reducible refine Go.le_drew ?_ | omega | (dsimp only; omega)))⟩

set_option maxRecDepth 100000 in
set_option maxHeartbeats 2000000 in
theorem cd_3 (w : World) : Calls Tryz.prog 32 #[.int .u8 3] w fun e w' => e = .returned (.agg #[.bool true, .bool true, .bool false, .bool false, .bool false, .bool false]) ∧ Below w.heap.size w w' := by
  have q0 : bits BinOp.and IntKind.u8 3 1 = 1 := by decide +kernel
  have q1 : bits BinOp.and IntKind.u8 3 2 = 2 := by decide +kernel
  have q2 : bits BinOp.and IntKind.u8 3 4 = 0 := by decide +kernel
  have q3 : bits BinOp.and IntKind.u8 3 8 = 0 := by decide +kernel
  have q4 : bits BinOp.and IntKind.u8 3 16 = 0 := by decide +kernel
  have q5 : bits BinOp.and IntKind.u8 3 32 = 0 := by decide +kernel
  go_enter Tryz.func32, Tryz.ntmps32
  go_wp2_with fail
  refine wp_loop_rounds 7 ?_
  rw [rounds_succ]
  go_wp2_with fail
  rw [rounds_succ]
  go_wp2_with fail
  rw [rounds_succ]
  go_wp2_with fail
  rw [rounds_succ]
  go_wp2_with fail
  rw [rounds_succ]
  go_wp2_with fail
  rw [rounds_succ]
  go_wp2_with fail
  rw [rounds_succ]
  go_wp2_with fail
  exact bodyPost_ret (v := .agg #[.bool true, .bool true, .bool false, .bool false, .bool false, .bool false]) (by simp [results, Tryz.results32, go_sem]) rfl ⟨rfl, (by repeat' (first | with_reducible exact Below.refl _ _ | with_reducible exact Nat.le_refl _ | with_reducible assumption | with_reducible refine Go.below_growBy' ?_ ?_ _ | with_reducible refine Below.alloc ?_ ?_ _ | with_reducible refine Below.setCell ?_ ?_ _ | with_reducible refine Below.drew ?_ | with_reducible refine Go.le_alloc ?_ | with_reducible refine Go.le_growBy ?_ | with_reducible refine Go.le_setCell ?_ | with_reducible refine Go.le_drew ?_ | omega | (dsimp only; omega)))⟩

set_option maxRecDepth 100000 in
set_option maxHeartbeats 2000000 in
theorem cd_9 (w : World) : Calls Tryz.prog 32 #[.int .u8 9] w fun e w' => e = .returned (.agg #[.bool true, .bool false, .bool false, .bool true, .bool false, .bool false]) ∧ Below w.heap.size w w' := by
  have q0 : bits BinOp.and IntKind.u8 9 1 = 1 := by decide +kernel
  have q1 : bits BinOp.and IntKind.u8 9 2 = 0 := by decide +kernel
  have q2 : bits BinOp.and IntKind.u8 9 4 = 0 := by decide +kernel
  have q3 : bits BinOp.and IntKind.u8 9 8 = 8 := by decide +kernel
  have q4 : bits BinOp.and IntKind.u8 9 16 = 0 := by decide +kernel
  have q5 : bits BinOp.and IntKind.u8 9 32 = 0 := by decide +kernel
  go_enter Tryz.func32, Tryz.ntmps32
  go_wp2_with fail
  refine wp_loop_rounds 7 ?_
  rw [rounds_succ]
  go_wp2_with fail
  rw [rounds_succ]
  go_wp2_with fail
  rw [rounds_succ]
  go_wp2_with fail
  rw [rounds_succ]
  go_wp2_with fail
  rw [rounds_succ]
  go_wp2_with fail
  rw [rounds_succ]
  go_wp2_with fail
  rw [rounds_succ]
  go_wp2_with fail
  exact bodyPost_ret (v := .agg #[.bool true, .bool false, .bool false, .bool true, .bool false, .bool false]) (by simp [results, Tryz.results32, go_sem]) rfl ⟨rfl, (by repeat' (first | with_reducible exact Below.refl _ _ | with_reducible exact Nat.le_refl _ | with_reducible assumption | with_reducible refine Go.below_growBy' ?_ ?_ _ | with_reducible refine Below.alloc ?_ ?_ _ | with_reducible refine Below.setCell ?_ ?_ _ | with_reducible refine Below.drew ?_ | with_reducible refine Go.le_alloc ?_ | with_reducible refine Go.le_growBy ?_ | with_reducible refine Go.le_setCell ?_ | with_reducible refine Go.le_drew ?_ | omega | (dsimp only; omega)))⟩

set_option maxRecDepth 100000 in
set_option maxHeartbeats 2000000 in
theorem cd_25 (w : World) : Calls Tryz.prog 32 #[.int .u8 25] w fun e w' => e = .returned (.agg #[.bool true, .bool false, .bool false, .bool true, .bool true, .bool false]) ∧ Below w.heap.size w w' := by
  have q0 : bits BinOp.and IntKind.u8 25 1 = 1 := by decide +kernel
  have q1 : bits BinOp.and IntKind.u8 25 2 = 0 := by decide +kernel
  have q2 : bits BinOp.and IntKind.u8 25 4 = 0 := by decide +kernel
  have q3 : bits BinOp.and IntKind.u8 25 8 = 8 := by decide +kernel
  have q4 : bits BinOp.and IntKind.u8 25 16 = 16 := by decide +kernel
  have q5 : bits BinOp.and IntKind.u8 25 32 = 0 := by decide +kernel
  go_enter Tryz.func32, Tryz.ntmps32
  go_wp2_with fail
  refine wp_loop_rounds 7 ?_
  rw [rounds_succ]
  go_wp2_with fail
  rw [rounds_succ]
  go_wp2_with fail
  rw [rounds_succ]
  go_wp2_with fail
  rw [rounds_succ]
  go_wp2_with fail
  rw [rounds_succ]
  go_wp2_with fail
  rw [rounds_succ]
  go_wp2_with fail
  rw [rounds_succ]
  go_wp2_with fail
  exact bodyPost_ret (v := .agg #[.bool true, .bool false, .bool false, .bool true, .bool true, .bool false]) (by simp [results, Tryz.results32, go_sem]) rfl ⟨rfl, (by repeat' (first | with_reducible exact Below.refl _ _ | with_reducible exact Nat.le_refl _ | with_reducible assumption | with_reducible refine Go.below_growBy' ?_ ?_ _ | with_reducible refine Below.alloc ?_ ?_ _ | with_reducible refine Below.setCell ?_ ?_ _ | with_reducible refine Below.drew ?_ | with_reducible refine Go.le_alloc ?_ | with_reducible refine Go.le_growBy ?_ | with_reducible refine Go.le_setCell ?_ | with_reducible refine Go.le_drew ?_ | omega | (dsimp only; omega)))⟩

set_option maxRecDepth 100000 in
set_option maxHeartbeats 2000000 in
theorem cd_17 (w : World) : Calls Tryz.prog 32 #[.int .u8 17] w fun e w' => e = .returned (.agg #[.bool true, .bool false, .bool false, .bool false, .bool true, .bool false]) ∧ Below w.heap.size w w' := by
  have q0 : bits BinOp.and IntKind.u8 17 1 = 1 := by decide +kernel
  have q1 : bits BinOp.and IntKind.u8 17 2 = 0 := by decide +kernel
  have q2 : bits BinOp.and IntKind.u8 17 4 = 0 := by decide +kernel
  have q3 : bits BinOp.and IntKind.u8 17 8 = 0 := by decide +kernel
  have q4 : bits BinOp.and IntKind.u8 17 16 = 16 := by decide +kernel
  have q5 : bits BinOp.and IntKind.u8 17 32 = 0 := by decide +kernel
  go_enter Tryz.func32, Tryz.ntmps32
  go_wp2_with fail
  refine wp_loop_rounds 7 ?_
  rw [rounds_succ]
  go_wp2_with fail
  rw [rounds_succ]
  go_wp2_with fail
  rw [rounds_succ]
  go_wp2_with fail
  rw [rounds_succ]
  go_wp2_with fail
  rw [rounds_succ]
  go_wp2_with fail
  rw [rounds_succ]
  go_wp2_with fail
  rw [rounds_succ]
  go_wp2_with fail
  exact bodyPost_ret (v := .agg #[.bool true, .bool false, .bool false, .bool false, .bool true, .bool false]) (by simp [results, Tryz.results32, go_sem]) rfl ⟨rfl, (by repeat' (first | with_reducible exact Below.refl _ _ | with_reducible exact Nat.le_refl _ | with_reducible assumption | with_reducible refine Go.below_growBy' ?_ ?_ _ | with_reducible refine Below.alloc ?_ ?_ _ | with_reducible refine Below.setCell ?_ ?_ _ | with_reducible refine Below.drew ?_ | with_reducible refine Go.le_alloc ?_ | with_reducible refine Go.le_growBy ?_ | with_reducible refine Go.le_setCell ?_ | with_reducible refine Go.le_drew ?_ | omega | (dsimp only; omega)))⟩

set_option maxRecDepth 100000 in
set_option maxHeartbeats 2000000 in
theorem cd_11 (w : World) : Calls Tryz.prog 32 #[.int .u8 11] w fun e w' => e = .returned (.agg #[.bool true, .bool true, .bool false, .bool true, .bool false, .bool false]) ∧ Below w.heap.size w w' := by
  have q0 : bits BinOp.and IntKind.u8 11 1 = 1 := by decide +kernel
  have q1 : bits BinOp.and IntKind.u8 11 2 = 2 := by decide +kernel
  have q2 : bits BinOp.and IntKind.u8 11 4 = 0 := by decide +kernel
  have q3 : bits BinOp.and IntKind.u8 11 8 = 8 := by decide +kernel
  have q4 : bits BinOp.and IntKind.u8 11 16 = 0 := by decide +kernel
  have q5 : bits BinOp.and IntKind.u8 11 32 = 0 := by decide +kernel
  go_enter Tryz.func32, Tryz.ntmps32
  go_wp2_with fail
  refine wp_loop_rounds 7 ?_
  rw [rounds_succ]
  go_wp2_with fail
  rw [rounds_succ]
  go_wp2_with fail
  rw [rounds_succ]
  go_wp2_with fail
  rw [rounds_succ]
  go_wp2_with fail
  rw [rounds_succ]
  go_wp2_with fail
  rw [rounds_succ]
  go_wp2_with fail
  rw [rounds_succ]
  go_wp2_with fail
  exact bodyPost_ret (v := .agg #[.bool true, .bool true, .bool false, .bool true, .bool false, .bool false]) (by simp [results, Tryz.results32, go_sem]) rfl ⟨rfl, (by repeat' (first | with_reducible exact Below.refl _ _ | with_reducible exact Nat.le_refl _ | with_reducible assumption | with_reducible refine Go.below_growBy' ?_ ?_ _ | with_reducible refine Below.alloc ?_ ?_ _ | with_reducible refine Below.setCell ?_ ?_ _ | with_reducible refine Below.drew ?_ | with_reducible refine Go.le_alloc ?_ | with_reducible refine Go.le_growBy ?_ | with_reducible refine Go.le_setCell ?_ | with_reducible refine Go.le_drew ?_ | omega | (dsimp only; omega)))⟩

set_option maxRecDepth 100000 in
set_option maxHeartbeats 2000000 in
theorem cd_27 (w : World) : Calls Tryz.prog 32 #[.int .u8 27] w fun e w' => e = .returned (.agg #[.bool true, .bool true, .bool false, .bool true, .bool true, .bool false]) ∧ Below w.heap.size w w' := by
  have q0 : bits BinOp.and IntKind.u8 27 1 = 1 := by decide +kernel
  have q1 : bits BinOp.and IntKind.u8 27 2 = 2 := by decide +kernel
  have q2 : bits BinOp.and IntKind.u8 27 4 = 0 := by decide +kernel
  have q3 : bits BinOp.and IntKind.u8 27 8 = 8 := by decide +kernel
  have q4 : bits BinOp.and IntKind.u8 27 16 = 16 := by decide +kernel
  have q5 : bits BinOp.and IntKind.u8 27 32 = 0 := by decide +kernel
  go_enter Tryz.func32, Tryz.ntmps32
  go_wp2_with fail
  refine wp_loop_rounds 7 ?_
  rw [rounds_succ]
  go_wp2_with fail
  rw [rounds_succ]
  go_wp2_with fail
  rw [rounds_succ]
  go_wp2_with fail
  rw [rounds_succ]
  go_wp2_with fail
  rw [rounds_succ]
  go_wp2_with fail
  rw [rounds_succ]
  go_wp2_with fail
  rw [rounds_succ]
  go_wp2_with fail
  exact bodyPost_ret (v := .agg #[.bool true, .bool true, .bool false, .bool true, .bool true, .bool false]) (by simp [results, Tryz.results32, go_sem]) rfl ⟨rfl, (by repeat' (first | with_reducible exact Below.refl _ _ | with_reducible exact Nat.le_refl _ | with_reducible assumption | with_reducible refine Go.below_growBy' ?_ ?_ _ | with_reducible refine Below.alloc ?_ ?_ _ | with_reducible refine Below.setCell ?_ ?_ _ | with_reducible refine Below.drew ?_ | with_reducible refine Go.le_alloc ?_ | with_reducible refine Go.le_growBy ?_ | with_reducible refine Go.le_setCell ?_ | with_reducible refine Go.le_drew ?_ | omega | (dsimp only; omega)))⟩

set_option maxRecDepth 100000 in
set_option maxHeartbeats 2000000 in
theorem cd_19 (w : World) : Calls Tryz.prog 32 #[.int .u8 19] w fun e w' => e = .returned (.agg #[.bool true, .bool true, .bool false, .bool false, .bool true, .bool false]) ∧ Below w.heap.size w w' := by
  have q0 : bits BinOp.and IntKind.u8 19 1 = 1 := by decide +kernel
  have q1 : bits BinOp.and IntKind.u8 19 2 = 2 := by decide +kernel
  have q2 : bits BinOp.and IntKind.u8 19 4 = 0 := by decide +kernel
  have q3 : bits BinOp.and IntKind.u8 19 8 = 0 := by decide +kernel
  have q4 : bits BinOp.and IntKind.u8 19 16 = 16 := by decide +kernel
  have q5 : bits BinOp.and IntKind.u8 19 32 = 0 := by decide +kernel
  go_enter Tryz.func32, Tryz.ntmps32
  go_wp2_with fail
  refine wp_loop_rounds 7 ?_
  rw [rounds_succ]
  go_wp2_with fail
  rw [rounds_succ]
  go_wp2_with fail
  rw [rounds_succ]
  go_wp2_with fail
  rw [rounds_succ]
  go_wp2_with fail
  rw [rounds_succ]
  go_wp2_with fail
  rw [rounds_succ]
  go_wp2_with fail
  rw [rounds_succ]
  go_wp2_with fail
  exact bodyPost_ret (v := .agg #[.bool true, .bool true, .bool false, .bool false, .bool true, .bool false]) (by simp [results, Tryz.results32, go_sem]) rfl ⟨rfl, (by repeat' (first | with_reducible exact Below.refl _ _ | with_reducible exact Nat.le_refl _ | with_reducible assumption | with_reducible refine Go.below_growBy' ?_ ?_ _ | with_reducible refine Below.alloc ?_ ?_ _ | with_reducible refine Below.setCell ?_ ?_ _ | with_reducible refine Below.drew ?_ | with_reducible refine Go.le_alloc ?_ | with_reducible refine Go.le_growBy ?_ | with_reducible refine Go.le_setCell ?_ | with_reducible refine Go.le_drew ?_ | omega | (dsimp only; omega)))⟩

set_option maxRecDepth 100000 in
set_option maxHeartbeats 2000000 in
theorem cd_10 (w : World) : Calls Tryz.prog 32 #[.int .u8 10] w fun e w' => e = .returned (.agg #[.bool false, .bool true, .bool false, .bool true, .bool false, .bool false]) ∧ Below w.heap.size w w' := by
  have q0 : bits BinOp.and IntKind.u8 10 1 = 0 := by decide +kernel
  have q1 : bits BinOp.and IntKind.u8 10 2 = 2 := by decide +kernel
  have q2 : bits BinOp.and IntKind.u8 10 4 = 0 := by decide +kernel
  have q3 : bits BinOp.and IntKind.u8 10 8 = 8 := by decide +kernel
  have q4 : bits BinOp.and IntKind.u8 10 16 = 0 := by decide +kernel
  have q5 : bits BinOp.and IntKind.u8 10 32 = 0 := by decide +kernel
  go_enter Tryz.func32, Tryz.ntmps32
  go_wp2_with fail
  refine wp_loop_rounds 7 ?_
  rw [rounds_succ]
  go_wp2_with fail
  rw [rounds_succ]
  go_wp2_with fail
  rw [rounds_succ]
  go_wp2_with fail
  rw [rounds_succ]
  go_wp2_with fail
  rw [rounds_succ]
  go_wp2_with fail
  rw [rounds_succ]
  go_wp2_with fail
  rw [rounds_succ]
  go_wp2_with fail
  exact bodyPost_ret (v := .agg #[.bool false, .bool true, .bool false, .bool true, .bool false, .bool false]) (by simp [results, Tryz.results32, go_sem]) rfl ⟨rfl, (by repeat' (first | with_reducible exact Below.refl _ _ | with_reducible exact Nat.le_refl _ | with_reducible assumption | with_reducible refine Go.below_growBy' ?_ ?_ _ | with_reducible refine Below.alloc ?_ ?_ _ | with_reducible refine Below.setCell ?_ ?_ _ | with_reducible refine Below.drew ?_ | with_reducible refine Go.le_alloc ?_ | with_reducible refine Go.le_growBy ?_ | with_reducible refine Go.le_setCell ?_ | with_reducible refine Go.le_drew ?_ | omega | (dsimp only; omega)))⟩

set_option maxRecDepth 100000 in
set_option maxHeartbeats 2000000 in
theorem rd_60 (w : World) : Calls Tryz.prog 39 #[.int .u8 60] w fun e w' => e = .returned (.agg #[.bool false, .bool false, .bool true, .bool true, .bool true, .bool true]) ∧ Below w.heap.size w w' := by
  have q0 : bits BinOp.and IntKind.u8 1 1 = 1 := by decide +kernel
  have q1 : bits BinOp.and IntKind.u8 3 1 = 1 := by decide +kernel
  have q2 : bits BinOp.and IntKind.u8 7 1 = 1 := by decide +kernel
  have q3 : bits BinOp.and IntKind.u8 15 1 = 1 := by decide +kernel
  have q4 : bits BinOp.and IntKind.u8 30 1 = 0 := by decide +kernel
  have q5 : bits BinOp.and IntKind.u8 60 1 = 0 := by decide +kernel
  go_enter Tryz.func39, Tryz.ntmps39
  go_wp2_with fail
  refine wp_loop_rounds 7 ?_
  rw [rounds_succ]
  go_wp2_with fail
  rw [rounds_succ]
  go_wp2_with fail
  rw [rounds_succ]
  go_wp2_with fail
  rw [rounds_succ]
  go_wp2_with fail
  rw [rounds_succ]
  go_wp2_with fail
  rw [rounds_succ]
  go_wp2_with fail
  rw [rounds_succ]
  go_wp2_with fail
  exact bodyPost_ret (v := .agg #[.bool false, .bool false, .bool true, .bool true, .bool true, .bool true]) (by simp [results, Tryz.results39, go_sem]) rfl ⟨rfl, (by repeat' (first | with_reducible exact Below.refl _ _ | with_reducible exact Nat.le_refl _ | with_reducible assumption | with_reducible refine Go.below_growBy' ?_ ?_ _ | with_reducible refine Below.alloc ?_ ?_ _ | with_reducible refine Below.setCell ?_ ?_ _ | with_reducible refine Below.drew ?_ | with_reducible refine Go.le_alloc ?_ | with_reducible refine Go.le_growBy ?_ | with_reducible refine Go.le_setCell ?_ | with_reducible refine Go.le_drew ?_ | omega | (dsimp only; omega)))⟩

set_option maxRecDepth 100000 in
set_option maxHeartbeats 2000000 in
theorem rd_26 (w : World) : Calls Tryz.prog 39 #[.int .u8 26] w fun e w' => e = .returned (.agg #[.bool false, .bool true, .bool false, .bool true, .bool true, .bool false]) ∧ Below w.heap.size w w' := by
  have q0 : bits BinOp.and IntKind.u8 0 1 = 0 := by decide +kernel
  have q1 : bits BinOp.and IntKind.u8 1 1 = 1 := by decide +kernel
  have q2 : bits BinOp.and IntKind.u8 3 1 = 1 := by decide +kernel
  have q3 : bits BinOp.and IntKind.u8 6 1 = 0 := by decide +kernel
  have q4 : bits BinOp.and IntKind.u8 13 1 = 1 := by decide +kernel
  have q5 : bits BinOp.and IntKind.u8 26 1 = 0 := by decide +kernel
  go_enter Tryz.func39, Tryz.ntmps39
  go_wp2_with fail
  refine wp_loop_rounds 7 ?_
  rw [rounds_succ]
  go_wp2_with fail
  rw [rounds_succ]
  go_wp2_with fail
  rw [rounds_succ]
  go_wp2_with fail
  rw [rounds_succ]
  go_wp2_with fail
  rw [rounds_succ]
  go_wp2_with fail
  rw [rounds_succ]
  go_wp2_with fail
  rw [rounds_succ]
  go_wp2_with fail
  exact bodyPost_ret (v := .agg #[.bool false, .bool true, .bool false, .bool true, .bool true, .bool false]) (by simp [results, Tryz.results39, go_sem]) rfl ⟨rfl, (by repeat' (first | with_reducible exact Below.refl _ _ | with_reducible exact Nat.le_refl _ | with_reducible assumption | with_reducible refine Go.below_growBy' ?_ ?_ _ | with_reducible refine Below.alloc ?_ ?_ _ | with_reducible refine Below.setCell ?_ ?_ _ | with_reducible refine Below.drew ?_ | with_reducible refine Go.le_alloc ?_ | with_reducible refine Go.le_growBy ?_ | with_reducible refine Go.le_setCell ?_ | with_reducible refine Go.le_drew ?_ | omega | (dsimp only; omega)))⟩

set_option maxRecDepth 100000 in
set_option maxHeartbeats 2000000 in
theorem rd_1 (w : World) : Calls Tryz.prog 39 #[.int .u8 1] w fun e w' => e = .returned (.agg #[.bool true, .bool false, .bool false, .bool false, .bool false, .bool false]) ∧ Below w.heap.size w w' := by
  have q0 : bits BinOp.and IntKind.u8 0 1 = 0 := by decide +kernel
  have q1 : bits BinOp.and IntKind.u8 1 1 = 1 := by decide +kernel
  go_enter Tryz.func39, Tryz.ntmps39
  go_wp2_with fail
  refine wp_loop_rounds 7 ?_
  rw [rounds_succ]
  go_wp2_with fail
  rw [rounds_succ]
  go_wp2_with fail
  rw [rounds_succ]
  go_wp2_with fail
  rw [rounds_succ]
  go_wp2_with fail
  rw [rounds_succ]
  go_wp2_with fail
  rw [rounds_succ]
  go_wp2_with fail
  rw [rounds_succ]
  go_wp2_with fail
  exact bodyPost_ret (v := .agg #[.bool true, .bool false, .bool false, .bool false, .bool false, .bool false]) (by simp [results, Tryz.results39, go_sem]) rfl ⟨rfl, (by repeat' (first | with_reducible exact Below.refl _ _ | with_reducible exact Nat.le_refl _ | with_reducible assumption | with_reducible refine Go.below_growBy' ?_ ?_ _ | with_reducible refine Below.alloc ?_ ?_ _ | with_reducible refine Below.setCell ?_ ?_ _ | with_reducible refine Below.drew ?_ | with_reducible refine Go.le_alloc ?_ | with_reducible refine Go.le_growBy ?_ | with_reducible refine Go.le_setCell ?_ | with_reducible refine Go.le_drew ?_ | omega | (dsimp only; omega)))⟩

set_option maxRecDepth 100000 in
set_option maxHeartbeats 2000000 in
theorem rd_3 (w : World) : Calls Tryz.prog 39 #[.int .u8 3] w fun e w' => e = .returned (.agg #[.bool true, .bool true, .bool false, .bool false, .bool false, .bool false]) ∧ Below w.heap.size w w' := by
  have q0 : bits BinOp.and IntKind.u8 0 1 = 0 := by decide +kernel
  have q1 : bits BinOp.and IntKind.u8 1 1 = 1 := by decide +kernel
  have q2 : bits BinOp.and IntKind.u8 3 1 = 1 := by decide +kernel
  go_enter Tryz.func39, Tryz.ntmps39
  go_wp2_with fail
  refine wp_loop_rounds 7 ?_
  rw [rounds_succ]
  go_wp2_with fail
  rw [rounds_succ]
  go_wp2_with fail
  rw [rounds_succ]
  go_wp2_with fail
  rw [rounds_succ]
  go_wp2_with fail
  rw [rounds_succ]
  go_wp2_with fail
  rw [rounds_succ]
  go_wp2_with fail
  rw [rounds_succ]
  go_wp2_with fail
  exact bodyPost_ret (v := .agg #[.bool true, .bool true, .bool false, .bool false, .bool false, .bool false]) (by simp [results, Tryz.results39, go_sem]) rfl ⟨rfl, (by repeat' (first | with_reducible exact Below.refl _ _ | with_reducible exact Nat.le_refl _ | with_reducible assumption | with_reducible refine Go.below_growBy' ?_ ?_ _ | with_reducible refine Below.alloc ?_ ?_ _ | with_reducible refine Below.setCell ?_ ?_ _ | with_reducible refine Below.drew ?_ | with_reducible refine Go.le_alloc ?_ | with_reducible refine Go.le_growBy ?_ | with_reducible refine Go.le_setCell ?_ | with_reducible refine Go.le_drew ?_ | omega | (dsimp only; omega)))⟩

set_option maxRecDepth 100000 in
set_option maxHeartbeats 2000000 in
theorem rd_9 (w : World) : Calls Tryz.prog 39 #[.int .u8 9] w fun e w' => e = .returned (.agg #[.bool true, .bool false, .bool false, .bool true, .bool false, .bool false]) ∧ Below w.heap.size w w' := by
  have q0 : bits BinOp.and IntKind.u8 0 1 = 0 := by decide +kernel
  have q1 : bits BinOp.and IntKind.u8 1 1 = 1 := by decide +kernel
  have q2 : bits BinOp.and IntKind.u8 2 1 = 0 := by decide +kernel
  have q3 : bits BinOp.and IntKind.u8 4 1 = 0 := by decide +kernel
  have q4 : bits BinOp.and IntKind.u8 9 1 = 1 := by decide +kernel
  go_enter Tryz.func39, Tryz.ntmps39
  go_wp2_with fail
  refine wp_loop_rounds 7 ?_
  rw [rounds_succ]
  go_wp2_with fail
  rw [rounds_succ]
  go_wp2_with fail
  rw [rounds_succ]
  go_wp2_with fail
  rw [rounds_succ]
  go_wp2_with fail
  rw [rounds_succ]
  go_wp2_with fail
  rw [rounds_succ]
  go_wp2_with fail
  rw [rounds_succ]
  go_wp2_with fail
  exact bodyPost_ret (v := .agg #[.bool true, .bool false, .bool false, .bool true, .bool false, .bool false]) (by simp [results, Tryz.results39, go_sem]) rfl ⟨rfl, (by repeat' (first | with_reducible exact Below.refl _ _ | with_reducible exact Nat.le_refl _ | with_reducible assumption | with_reducible refine Go.below_growBy' ?_ ?_ _ | with_reducible refine Below.alloc ?_ ?_ _ | with_reducible refine Below.setCell ?_ ?_ _ | with_reducible refine Below.drew ?_ | with_reducible refine Go.le_alloc ?_ | with_reducible refine Go.le_growBy ?_ | with_reducible refine Go.le_setCell ?_ | with_reducible refine Go.le_drew ?_ | omega | (dsimp only; omega)))⟩

set_option maxRecDepth 100000 in
set_option maxHeartbeats 2000000 in
theorem rd_25 (w : World) : Calls Tryz.prog 39 #[.int .u8 25] w fun e w' => e = .returned (.agg #[.bool true, .bool false, .bool false, .bool true, .bool true, .bool false]) ∧ Below w.heap.size w w' := by
  have q0 : bits BinOp.and IntKind.u8 0 1 = 0 := by decide +kernel
  have q1 : bits BinOp.and IntKind.u8 1 1 = 1 := by decide +kernel
  have q2 : bits BinOp.and IntKind.u8 3 1 = 1 := by decide +kernel
  have q3 : bits BinOp.and IntKind.u8 6 1 = 0 := by decide +kernel
  have q4 : bits BinOp.and IntKind.u8 12 1 = 0 := by decide +kernel
  have q5 : bits BinOp.and IntKind.u8 25 1 = 1 := by decide +kernel
  go_enter Tryz.func39, Tryz.ntmps39
  go_wp2_with fail
  refine wp_loop_rounds 7 ?_
  rw [rounds_succ]
  go_wp2_with fail
  rw [rounds_succ]
  go_wp2_with fail
  rw [rounds_succ]
  go_wp2_with fail
  rw [rounds_succ]
  go_wp2_with fail
  rw [rounds_succ]
  go_wp2_with fail
  rw [rounds_succ]
  go_wp2_with fail
  rw [rounds_succ]
  go_wp2_with fail
  exact bodyPost_ret (v := .agg #[.bool true, .bool false, .bool false, .bool true, .bool true, .bool false]) (by simp [results, Tryz.results39, go_sem]) rfl ⟨rfl, (by repeat' (first | with_reducible exact Below.refl _ _ | with_reducible exact Nat.le_refl _ | with_reducible assumption | with_reducible refine Go.below_growBy' ?_ ?_ _ | with_reducible refine Below.alloc ?_ ?_ _ | with_reducible refine Below.setCell ?_ ?_ _ | with_reducible refine Below.drew ?_ | with_reducible refine Go.le_alloc ?_ | with_reducible refine Go.le_growBy ?_ | with_reducible refine Go.le_setCell ?_ | with_reducible refine Go.le_drew ?_ | omega | (dsimp only; omega)))⟩

set_option maxRecDepth 100000 in
set_option maxHeartbeats 2000000 in
theorem rd_17 (w : World) : Calls Tryz.prog 39 #[.int .u8 17] w fun e w' => e = .returned (.agg #[.bool true, .bool false, .bool false, .bool false, .bool true, .bool false]) ∧ Below w.heap.size w w' := by
  have q0 : bits BinOp.and IntKind.u8 0 1 = 0 := by decide +kernel
  have q1 : bits BinOp.and IntKind.u8 1 1 = 1 := by decide +kernel
  have q2 : bits BinOp.and IntKind.u8 2 1 = 0 := by decide +kernel
  have q3 : bits BinOp.and IntKind.u8 4 1 = 0 := by decide +kernel
  have q4 : bits BinOp.and IntKind.u8 8 1 = 0 := by decide +kernel
  have q5 : bits BinOp.and IntKind.u8 17 1 = 1 := by decide +kernel
  go_enter Tryz.func39, Tryz.ntmps39
  go_wp2_with fail
  refine wp_loop_rounds 7 ?_
  rw [rounds_succ]
  go_wp2_with fail
  rw [rounds_succ]
  go_wp2_with fail
  rw [rounds_succ]
  go_wp2_with fail
  rw [rounds_succ]
  go_wp2_with fail
  rw [rounds_succ]
  go_wp2_with fail
  rw [rounds_succ]
  go_wp2_with fail
  rw [rounds_succ]
  go_wp2_with fail
  exact bodyPost_ret (v := .agg #[.bool true, .bool false, .bool false, .bool false, .bool true, .bool false]) (by simp [results, Tryz.results39, go_sem]) rfl ⟨rfl, (by repeat' (first | with_reducible exact Below.refl _ _ | with_reducible exact Nat.le_refl _ | with_reducible assumption | with_reducible refine Go.below_growBy' ?_ ?_ _ | with_reducible refine Below.alloc ?_ ?_ _ | with_reducible refine Below.setCell ?_ ?_ _ | with_reducible refine Below.drew ?_ | with_reducible refine Go.le_alloc ?_ | with_reducible refine Go.le_growBy ?_ | with_reducible refine Go.le_setCell ?_ | with_reducible refine Go.le_drew ?_ | omega | (dsimp only; omega)))⟩

set_option maxRecDepth 100000 in
set_option maxHeartbeats 2000000 in
theorem rd_11 (w : World) : Calls Tryz.prog 39 #[.int .u8 11] w fun e w' => e = .returned (.agg #[.bool true, .bool true, .bool false, .bool true, .bool false, .bool false]) ∧ Below w.heap.size w w' := by
  have q0 : bits BinOp.and IntKind.u8 0 1 = 0 := by decide +kernel
  have q1 : bits BinOp.and IntKind.u8 1 1 = 1 := by decide +kernel
  have q2 : bits BinOp.and IntKind.u8 2 1 = 0 := by decide +kernel
  have q3 : bits BinOp.and IntKind.u8 5 1 = 1 := by decide +kernel
  have q4 : bits BinOp.and IntKind.u8 11 1 = 1 := by decide +kernel
  go_enter Tryz.func39, Tryz.ntmps39
  go_wp2_with fail
  refine wp_loop_rounds 7 ?_
  rw [rounds_succ]
  go_wp2_with fail
  rw [rounds_succ]
  go_wp2_with fail
  rw [rounds_succ]
  go_wp2_with fail
  rw [rounds_succ]
  go_wp2_with fail
  rw [rounds_succ]
  go_wp2_with fail
  rw [rounds_succ]
  go_wp2_with fail
  rw [rounds_succ]
  go_wp2_with fail
  exact bodyPost_ret (v := .agg #[.bool true, .bool true, .bool false, .bool true, .bool false, .bool false]) (by simp [results, Tryz.results39, go_sem]) rfl ⟨rfl, (by repeat' (first | with_reducible exact Below.refl _ _ | with_reducible exact Nat.le_refl _ | with_reducible assumption | with_reducible refine Go.below_growBy' ?_ ?_ _ | with_reducible refine Below.alloc ?_ ?_ _ | with_reducible refine Below.setCell ?_ ?_ _ | with_reducible refine Below.drew ?_ | with_reducible refine Go.le_alloc ?_ | with_reducible refine Go.le_growBy ?_ | with_reducible refine Go.le_setCell ?_ | with_reducible refine Go.le_drew ?_ | omega | (dsimp only; omega)))⟩

set_option maxRecDepth 100000 in
set_option maxHeartbeats 2000000 in
theorem rd_27 (w : World) : Calls Tryz.prog 39 #[.int .u8 27] w fun e w' => e = .returned (.agg #[.bool true, .bool true, .bool false, .bool true, .bool true, .bool false]) ∧ Below w.heap.size w w' := by
  have q0 : bits BinOp.and IntKind.u8 0 1 = 0 := by decide +kernel
  have q1 : bits BinOp.and IntKind.u8 1 1 = 1 := by decide +kernel
  have q2 : bits BinOp.and IntKind.u8 3 1 = 1 := by decide +kernel
  have q3 : bits BinOp.and IntKind.u8 6 1 = 0 := by decide +kernel
  have q4 : bits BinOp.and IntKind.u8 13 1 = 1 := by decide +kernel
  have q5 : bits BinOp.and IntKind.u8 27 1 = 1 := by decide +kernel
  go_enter Tryz.func39, Tryz.ntmps39
  go_wp2_with fail
  refine wp_loop_rounds 7 ?_
  rw [rounds_succ]
  go_wp2_with fail
  rw [rounds_succ]
  go_wp2_with fail
  rw [rounds_succ]
  go_wp2_with fail
  rw [rounds_succ]
  go_wp2_with fail
  rw [rounds_succ]
  go_wp2_with fail
  rw [rounds_succ]
  go_wp2_with fail
  rw [rounds_succ]
  go_wp2_with fail
  exact bodyPost_ret (v := .agg #[.bool true, .bool true, .bool false, .bool true, .bool true, .bool false]) (by simp [results, Tryz.results39, go_sem]) rfl ⟨rfl, (by repeat' (first | with_reducible exact Below.refl _ _ | with_reducible exact Nat.le_refl _ | with_reducible assumption | with_reducible refine Go.below_growBy' ?_ ?_ _ | with_reducible refine Below.alloc ?_ ?_ _ | with_reducible refine Below.setCell ?_ ?_ _ | with_reducible refine Below.drew ?_ | with_reducible refine Go.le_alloc ?_ | with_reducible refine Go.le_growBy ?_ | with_reducible refine Go.le_setCell ?_ | with_reducible refine Go.le_drew ?_ | omega | (dsimp only; omega)))⟩

set_option maxRecDepth 100000 in
set_option maxHeartbeats 2000000 in
theorem rd_19 (w : World) : Calls Tryz.prog 39 #[.int .u8 19] w fun e w' => e = .returned (.agg #[.bool true, .bool true, .bool false, .bool false, .bool true, .bool false]) ∧ Below w.heap.size w w' := by
  have q0 : bits BinOp.and IntKind.u8 0 1 = 0 := by decide +kernel
  have q1 : bits BinOp.and IntKind.u8 1 1 = 1 := by decide +kernel
  have q2 : bits BinOp.and IntKind.u8 2 1 = 0 := by decide +kernel
  have q3 : bits BinOp.and IntKind.u8 4 1 = 0 := by decide +kernel
  have q4 : bits BinOp.and IntKind.u8 9 1 = 1 := by decide +kernel
  have q5 : bits BinOp.and IntKind.u8 19 1 = 1 := by decide +kernel
  go_enter Tryz.func39, Tryz.ntmps39
  go_wp2_with fail
  refine wp_loop_rounds 7 ?_
  rw [rounds_succ]
  go_wp2_with fail
  rw [rounds_succ]
  go_wp2_with fail
  rw [rounds_succ]
  go_wp2_with fail
  rw [rounds_succ]
  go_wp2_with fail
  rw [rounds_succ]
  go_wp2_with fail
  rw [rounds_succ]
  go_wp2_with fail
  rw [rounds_succ]
  go_wp2_with fail
  exact bodyPost_ret (v := .agg #[.bool true, .bool true, .bool false, .bool false, .bool true, .bool false]) (by simp [results, Tryz.results39, go_sem]) rfl ⟨rfl, (by repeat' (first | with_reducible exact Below.refl _ _ | with_reducible exact Nat.le_refl _ | with_reducible assumption | with_reducible refine Go.below_growBy' ?_ ?_ _ | with_reducible refine Below.alloc ?_ ?_ _ | with_reducible refine Below.setCell ?_ ?_ _ | with_reducible refine Below.drew ?_ | with_reducible refine Go.le_alloc ?_ | with_reducible refine Go.le_growBy ?_ | with_reducible refine Go.le_setCell ?_ | with_reducible refine Go.le_drew ?_ | omega | (dsimp only; omega)))⟩

set_option maxRecDepth 100000 in
set_option maxHeartbeats 2000000 in
theorem rd_10 (w : World) : Calls Tryz.prog 39 #[.int .u8 10] w fun e w' => e = .returned (.agg #[.bool false, .bool true, .bool false, .bool true, .bool false, .bool false]) ∧ Below w.heap.size w w' := by
  have q0 : bits BinOp.and IntKind.u8 0 1 = 0 := by decide +kernel
  have q1 : bits BinOp.and IntKind.u8 1 1 = 1 := by decide +kernel
  have q2 : bits BinOp.and IntKind.u8 2 1 = 0 := by decide +kernel
  have q3 : bits BinOp.and IntKind.u8 5 1 = 1 := by decide +kernel
  have q4 : bits BinOp.and IntKind.u8 10 1 = 0 := by decide +kernel
  go_enter Tryz.func39, Tryz.ntmps39
  go_wp2_with fail
  refine wp_loop_rounds 7 ?_
  rw [rounds_succ]
  go_wp2_with fail
  rw [rounds_succ]
  go_wp2_with fail
  rw [rounds_succ]
  go_wp2_with fail
  rw [rounds_succ]
  go_wp2_with fail
  rw [rounds_succ]
  go_wp2_with fail
  rw [rounds_succ]
  go_wp2_with fail
  rw [rounds_succ]
  go_wp2_with fail
  exact bodyPost_ret (v := .agg #[.bool false, .bool true, .bool false, .bool true, .bool false, .bool false]) (by simp [results, Tryz.results39, go_sem]) rfl ⟨rfl, (by repeat' (first | with_reducible exact Below.refl _ _ | with_reducible exact Nat.le_refl _ | with_reducible assumption | with_reducible refine Go.below_growBy' ?_ ?_ _ | with_reducible refine Below.alloc ?_ ?_ _ | with_reducible refine Below.setCell ?_ ?_ _ | with_reducible refine Below.drew ?_ | with_reducible refine Go.le_alloc ?_ | with_reducible refine Go.le_growBy ?_ | with_reducible refine Go.le_setCell ?_ | with_reducible refine Go.le_drew ?_ | omega | (dsimp only; omega)))⟩

theorem cd_any (c : Nat) (h : c = 60 ∨ c = 26 ∨ c = 1 ∨ c = 3 ∨ c = 9 ∨ c = 25 ∨ c = 17 ∨ c = 11 ∨ c = 27 ∨ c = 19 ∨ c = 10) (w : World) : Calls Tryz.prog 32 #[.int .u8 c] w fun e w' => e = .returned (.agg #[.bool (dotB c 0), .bool (dotB c 1), .bool (dotB c 2), .bool (dotB c 3), .bool (dotB c 4), .bool (dotB c 5)]) ∧ Below w.heap.size w w' := by
  rcases h with rfl | rfl | rfl | rfl | rfl | rfl | rfl | rfl | rfl | rfl | rfl
  · exact cd_60 w
  · exact cd_26 w
  · exact cd_1 w
  · exact cd_3 w
  · exact cd_9 w
  · exact cd_25 w
  · exact cd_17 w
  · exact cd_11 w
  · exact cd_27 w
  · exact cd_19 w
  · exact cd_10 w

theorem rd_any (c : Nat) (h : c = 60 ∨ c = 26 ∨ c = 1 ∨ c = 3 ∨ c = 9 ∨ c = 25 ∨ c = 17 ∨ c = 11 ∨ c = 27 ∨ c = 19 ∨ c = 10) (w : World) : Calls Tryz.prog 39 #[.int .u8 c] w fun e w' => e = .returned (.agg #[.bool (dotB c 0), .bool (dotB c 1), .bool (dotB c 2), .bool (dotB c 3), .bool (dotB c 4), .bool (dotB c 5)]) ∧ Below w.heap.size w w' := by
  rcases h with rfl | rfl | rfl | rfl | rfl | rfl | rfl | rfl | rfl | rfl | rfl
  · exact rd_60 w
  · exact rd_26 w
  · exact rd_1 w
  · exact rd_3 w
  · exact rd_9 w
  · exact rd_25 w
  · exact rd_17 w
  · exact rd_11 w
  · exact rd_27 w
  · exact rd_19 w
  · exact rd_10 w

end Go.Proofs.YtjfdbigkbgolmaaGreatDoor
