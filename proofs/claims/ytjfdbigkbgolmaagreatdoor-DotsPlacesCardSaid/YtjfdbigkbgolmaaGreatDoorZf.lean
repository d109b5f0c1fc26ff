/-
  Chapter 29: the dots of a braille cell; digits.
  Chapter 29: the symbols.
  Chapter 29: strings.Builder's WriteByte at a builder that the call itself has made.
-/
import Derived.Test.YtjfdbigkbgolmaaGreatDoorZb
import Derived.Test.YtjfdbigkbgolmaaGreatDoorZa
import Derived.Test.YtjfdbigkbgolmaaGreatDoorZs
import Derived.Deep.WholeRow
import Derived.Laws.Rows
import Derived.Shelf.Strings.Builder1
namespace Go.Proofs.YtjfdbigkbgolmaaGreatDoor
set_option linter.unusedVariables false
set_option linter.unusedSimpArgs false
open Go.RowKit Go.Shelf
attribute [local go_sem] Oper.semAt_some

set_option maxRecDepth 100000 in
set_option maxHeartbeats 2000000 in
theorem bdots60 (w : World) : Calls Tryz.prog 32 #[.int .u8 60] w fun e w' => e = .returned (.agg #[.bool false, .bool false, .bool true, .bool true, .bool true, .bool true]) ∧ Below w.heap.size w w' := by
  have q0 : bits BinOp.and IntKind.u8 60 1 = 0 := by decide +kernel
  have q1 : bits BinOp.and IntKind.u8 60 2 = 0 := by decide +kernel
  have q2 : bits BinOp.and IntKind.u8 60 4 = 4 := by decide +kernel
  have q3 : bits BinOp.and IntKind.u8 60 8 = 8 := by decide +kernel
  have q4 : bits BinOp.and IntKind.u8 60 16 = 16 := by decide +kernel
  have q5 : bits BinOp.and IntKind.u8 60 32 = 32 := by decide +kernel
  go_enter Tryz.func32, Tryz.ntmps32
  go_wp2_with fail
  refine wp_loop_rounds 7 ?_
  rw [rounds_succ]
  go_wp2_with fail
  rw [rounds_succ]
  go_wp2_with fail
  rw [rounds_succ]
  go_wp2_with fail
  rw [rounds_succ]
  go_wp2_with fail
  rw [rounds_succ]
  go_wp2_with fail
  rw [rounds_succ]
  go_wp2_with fail
  rw [rounds_succ]
  go_wp2_with fail
  exact bodyPost_ret (v := .agg #[.bool false, .bool false, .bool true, .bool true, .bool true, .bool true]) (by simp [results, Tryz.results32, go_sem]) rfl ⟨rfl, (by repeat' (first | with_reducible exact Below.refl _ _ | with_reducible exact Nat.le_refl _ | with_reducible assumption | with_reducible refine Go.below_growBy' ?_ ?_ _ | with_reducible refine Below.alloc ?_ ?_ _ | with_reducible refine Below.setCell ?_ ?_ _ | with_reducible refine Below.drew ?_ | with_reducible refine Go.le_alloc ?_ | with_reducible refine Go.le_growBy ?_ | with_reducible refine Go.le_setCell ?_ | with_reducible refine Go.le_drew ?_ | omega | (dsimp only; omega)))⟩

set_option maxRecDepth 100000 in
set_option maxHeartbeats 2000000 in
theorem bdots1 (w : World) : Calls Tryz.prog 32 #[.int .u8 1] w fun e w' => e = .returned (.agg #[.bool true, .bool false, .bool false, .bool false, .bool false, .bool false]) ∧ Below w.heap.size w w' := by
  have q0 : bits BinOp.and IntKind.u8 1 1 = 1 := by decide +kernel
  have q1 : bits BinOp.and IntKind.u8 1 2 = 0 := by decide +kernel
  have q2 : bits BinOp.and IntKind.u8 1 4 = 0 := by decide +kernel
  have q3 : bits BinOp.and IntKind.u8 1 8 = 0 := by decide +kernel
  have q4 : bits BinOp.and IntKind.u8 1 16 = 0 := by decide +kernel
  have q5 : bits BinOp.and IntKind.u8 1 32 = 0 := by decide +kernel
  go_enter Tryz.func32, Tryz.ntmps32
  go_wp2_with fail
  refine wp_loop_rounds 7 ?_
  rw [rounds_succ]
  go_wp2_with fail
  rw [rounds_succ]
  go_wp2_with fail
  rw [rounds_succ]
  go_wp2_with fail
  rw [rounds_succ]
  go_wp2_with fail
  rw [rounds_succ]
  go_wp2_with fail
  rw [rounds_succ]
  go_wp2_with fail
  rw [rounds_succ]
  go_wp2_with fail
  exact bodyPost_ret (v := .agg #[.bool true, .bool false, .bool false, .bool false, .bool false, .bool false]) (by simp [results, Tryz.results32, go_sem]) rfl ⟨rfl, (by repeat' (first | with_reducible exact Below.refl _ _ | with_reducible exact Nat.le_refl _ | with_reducible assumption | with_reducible refine Go.below_growBy' ?_ ?_ _ | with_reducible refine Below.alloc ?_ ?_ _ | with_reducible refine Below.setCell ?_ ?_ _ | with_reducible refine Below.drew ?_ | with_reducible refine Go.le_alloc ?_ | with_reducible refine Go.le_growBy ?_ | with_reducible refine Go.le_setCell ?_ | with_reducible refine Go.le_drew ?_ | omega | (dsimp only; omega)))⟩

set_option maxRecDepth 100000 in
set_option maxHeartbeats 2000000 in
theorem bdots3 (w : World) : Calls Tryz.prog 32 #[.int .u8 3] w fun e w' => e = .returned (.agg #[.bool true, .bool true, .bool false, .bool false, .bool false, .bool false]) ∧ Below w.heap.size w w' := by
  have q0 : bits BinOp.and IntKind.u8 3 1 = 1 := by decide +kernel
  have q1 : bits BinOp.and IntKind.u8 3 2 = 2 := by decide +kernel
  have q2 : bits BinOp.and IntKind.u8 3 4 = 0 := by decide +kernel
  have q3 : bits BinOp.and IntKind.u8 3 8 = 0 := by decide +kernel
  have q4 : bits BinOp.and IntKind.u8 3 16 = 0 := by decide +kernel
  have q5 : bits BinOp.and IntKind.u8 3 32 = 0 := by decide +kernel
  go_enter Tryz.func32, Tryz.ntmps32
  go_wp2_with fail
  refine wp_loop_rounds 7 ?_
  rw [rounds_succ]
  go_wp2_with fail
  rw [rounds_succ]
  go_wp2_with fail
  rw [rounds_succ]
  go_wp2_with fail
  rw [rounds_succ]
  go_wp2_with fail
  rw [rounds_succ]
  go_wp2_with fail
  rw [rounds_succ]
  go_wp2_with fail
  rw [rounds_succ]
  go_wp2_with fail
  exact bodyPost_ret (v := .agg #[.bool true, .bool true, .bool false, .bool false, .bool false, .bool false]) (by simp [results, Tryz.results32, go_sem]) rfl ⟨rfl, (by repeat' (first | with_reducible exact Below.refl _ _ | with_reducible exact Nat.le_refl _ | with_reducible assumption | with_reducible refine Go.below_growBy' ?_ ?_ _ | with_reducible refine Below.alloc ?_ ?_ _ | with_reducible refine Below.setCell ?_ ?_ _ | with_reducible refine Below.drew ?_ | with_reducible refine Go.le_alloc ?_ | with_reducible refine Go.le_growBy ?_ | with_reducible refine Go.le_setCell ?_ | with_reducible refine Go.le_drew ?_ | omega | (dsimp only; omega)))⟩

theorem digit_any (c : Int) (b : Bool) (hb : (decide (48 ≤ c) && decide (c ≤ 57)) = b) (w : World) : Calls Tryz.prog 74 #[.int .u8 c] w fun e w' => e = .returned (.bool b) ∧ w = w' := by
  subst hb
  go_enter Tryz.func74, Tryz.ntmps74
  go_wp2_with fail
  all_goals
    go_ret
    exact ⟨by first | rfl | (congr 2; simp; omega), rfl⟩
end Go.Proofs.YtjfdbigkbgolmaaGreatDoor
namespace Go.Proofs.YtjfdbigkbgolmaaGreatDoor
set_option linter.unusedVariables false
set_option linter.unusedSimpArgs false
open Go.RowKit Go.Shelf
attribute [local go_sem] Oper.semAt_some

def symC : Array Value := #[.bool true, .bool true, .bool true, .bool true, .bool false, .bool true, .bool true, .bool true, .bool true, .bool false, .bool true, .bool false, .bool true, .bool true, .bool true, .bool false, .bool true, .bool false, .bool true, .bool false, .bool true, .bool false, .bool true, .bool false, .bool true, .bool false, .bool true, .bool true, .bool true, .bool true, .bool true, .bool true, .bool true, .bool true, .bool true, .bool true, .bool false, .bool false, .bool false, .bool true, .bool true, .bool true, .bool false, .bool false, .bool false, .bool false, .bool true, .bool false, .bool false, .bool true, .bool false, .bool false, .bool true, .bool false, .bool true, .bool false, .bool true, .bool false, .bool false, .bool false, .bool true, .bool false, .bool true]
def symZ : Array Value := #[.bool false, .bool false, .bool false, .bool false, .bool false, .bool false, .bool false, .bool false, .bool false, .bool false, .bool false, .bool false, .bool false, .bool false, .bool false, .bool false, .bool false, .bool false, .bool false, .bool false, .bool false, .bool false, .bool false, .bool false, .bool false, .bool false, .bool false, .bool false, .bool false, .bool false, .bool false, .bool false, .bool false, .bool false, .bool false, .bool false, .bool false, .bool false, .bool false, .bool false, .bool false, .bool false, .bool false, .bool false, .bool false, .bool false, .bool false, .bool false, .bool false, .bool false, .bool false, .bool false, .bool false, .bool false, .bool false, .bool false, .bool false, .bool false, .bool false, .bool false, .bool false, .bool false, .bool false]

theorem wpList_build_as {P : Program} {ops : Array Oper} {rest : List Oper} {o : Oper} {a : Act} {w : World} {Q : Exit → Act → World → Prop} (hg : o.guard = none) (t : TypeId) (parts : Array (Nat × Operand)) (ho : o.op = .build t parts) (cells : Array Value)
    (hc : P.built t (parts.map fun (i, x) => (i, a.eval x)).toList = some cells) (h : wpList P ops Q rest (a.put o.dst (.agg cells)) w) : wpList P ops Q (o :: rest) a w :=
  wpList_build hg t parts ho (by rw [hc]; rfl) (by rw [hc]; exact h)

set_option maxRecDepth 100000 in
set_option maxHeartbeats 2000000 in
theorem symbols_any (w : World) : Calls Tryz.prog 29 #[] w fun e w' => e = .returned (.agg symC) ∧ Below w.heap.size w w' := by
  have hi : (Tryz.prog.info? 82).map (·.size) = some symC.size := by kernel_rfl
  have hz : ∀ w, (zeroValue 82).run Tryz.prog w = .ok (.agg symZ) w := fun w => by kernel_rfl
  go_enter Tryz.func29, Tryz.ntmps29
  go_wp2_with (first | (refine wpList_build_as (by rfl) 82 _ (by rfl) symC (by kernel_rfl) ?_) | (refine wpList_store_row (by rfl) 82 _ _ (by rfl) w.heap.size symC (by rfl) (by rfl) 82 symZ (heap_alloc_last w _) (by kernel_rfl) (by rfl) (by decide +kernel) ?_; rw [World.setRow_alloc_new]))
  exact bodyPost_ret (results_cell_row (by rfl) _ _ w.heap.size 82 symC (0, 0) _ (by rfl) (heap_alloc_last w _) Tryz.underlying82 (by rfl) hi) rfl ⟨rfl, (by repeat' (first | with_reducible exact Below.refl _ _ | with_reducible exact Nat.le_refl _ | with_reducible assumption | with_reducible refine Go.below_growBy' ?_ ?_ _ | with_reducible refine Below.alloc ?_ ?_ _ | with_reducible refine Below.setCell ?_ ?_ _ | with_reducible refine Below.drew ?_ | with_reducible refine Go.le_alloc ?_ | with_reducible refine Go.le_growBy ?_ | with_reducible refine Go.le_setCell ?_ | with_reducible refine Go.le_drew ?_ | omega | (dsimp only; omega)))⟩
end Go.Proofs.YtjfdbigkbgolmaaGreatDoor
namespace Go.Proofs.YtjfdbigkbgolmaaGreatDoor
set_option linter.unusedVariables false
set_option linter.unusedSimpArgs false
open Go.RowKit Go.Shelf
attribute [local go_sem] Oper.semAt_some

theorem sizeBuilder : (Tryz.prog.info? 113).map (·.size) = some 2 := by kernel_rfl
theorem liesBuilder : liesAt Tryz.prog Tryz.prog.depth 113 (2 / Tryz.prog.cellsOf 113) 0 113 1 = true := by kernel_rfl

set_option maxHeartbeats 1000000 in
set_option maxRecDepth 100000 in
theorem copyCheck_used (b : Nat) (w : World) (h0 : w.cell? ⟨b, 0, none⟩ = some (.pointer (some ⟨b, 0, none⟩))) :
    Calls Tryz.prog 97 #[.pointer (some ⟨b, 0, none⟩)] w fun e w' => e = .returned (.tuple #[]) ∧ w' = w := by
  obtain ⟨j, hj, _⟩ := Option.map_eq_some_iff.1 sizeBuilder
  go_enter Tryz.func97, Tryz.ntmps97
  go_wp2
  rw [Lib.run_neq_ptr_same w _ Tryz.underlying111 hj]
  go_wp2
  go_end0
  exact ⟨rfl, rfl⟩

set_option maxHeartbeats 1000000 in
set_option maxRecDepth 100000 in
theorem copyCheck_fresh (b : Nat) (w : World) (h0 : w.cell? ⟨b, 0, none⟩ = some (.pointer none)) (hsh : w.shape? b = some (113, 2)) (hfz : w.frozen? ⟨b, 0, none⟩ = false) :
    Calls Tryz.prog 97 #[.pointer (some ⟨b, 0, none⟩)] w fun e w' => e = .returned (.tuple #[]) ∧ w' = w.setCell ⟨b, 0, none⟩ (.pointer (some ⟨b, 0, none⟩)) := by
  obtain ⟨j, hj, hjs⟩ := Option.map_eq_some_iff.1 sizeBuilder
  go_enter Tryz.func97, Tryz.ntmps97
  go_wp2
  rw [Lib.run_to_unsafe w ⟨b, 0, none⟩ Tryz.underlying111 Tryz.underlying171 hj (by rw [hjs]; decide) hsh (Nat.zero_lt_succ 1)]
  simp only [Result.andThen]
  rw [Oper.upon_value]
  go_wp2
  rw [run_callFunc_extern Tryz.func119 (by kernel_rfl) (by kernel_rfl) (by kernel_rfl) (e := Extern.AbiNoEscape.same) (by kernel_rfl)]
  rw [Lib.run_noEscape]
  simp only [Result.andThen]
  rw [Oper.upon_value]
  go_wp2
  rw [Lib.run_from_unsafe w ⟨b, 0, none⟩ Tryz.underlying171 Tryz.underlying111 hj hsh liesBuilder]
  simp only [Result.andThen]
  rw [Oper.upon_value]
  go_wp2
  go_end0
  exact ⟨rfl, rfl⟩

theorem copyCheck_any (B b : Nat) (bs : List Value) (w : World) (h : Lib.IsBuilder 113 5 B b bs w) :
    Calls Tryz.prog 97 #[.pointer (some ⟨b, 0, none⟩)] w fun e w' => e = .returned (.tuple #[]) ∧ (Lib.BuilderAt 113 5 B b (.pointer (some ⟨b, 0, none⟩)) bs w' ∧ Below B w w') := by
  rcases h with h | h
  · refine (copyCheck_fresh b w h.cell0 h.shape h.frozen0).mono ?_
    rintro e w' ⟨rfl, rfl⟩
    exact ⟨rfl, h.used _, (Below.refl B w).setCell (p := ⟨b, 0, none⟩) h.1 _⟩
  · refine (copyCheck_used b w h.cell0).mono ?_
    rintro e w' ⟨rfl, rfl⟩
    exact ⟨rfl, h, Below.refl B _⟩
end Go.Proofs.YtjfdbigkbgolmaaGreatDoor
