/-
  Chapter 29: ranges, quotients rounded down, right points. (of every function here: its contract)
-/
import Derived.Test.YtjfdbigkbgolmaaDoorP1
import Derived.Test.YtjfdbigkbgolmaaDoorTools
import Derived.Test.YtjfdbigkbgolmaaDoorChecked
import Derived.Test.YtjfdbigkbgolmaaDoorShelf
import Derived.Shelf.Abstract
import Derived.Lib.SliceRun
namespace Go.Proofs.YtjfdbigkbgolmaaDoor
set_option linter.unusedVariables false
set_option linter.unusedSimpArgs false
open Go.RowKit Go.Shelf
attribute [local go_sem] Oper.semAt_some

def fits (n : Int) : Prop := -9223372036854775808 ≤ n ∧ n ≤ 9223372036854775807
theorem fits_of {n : Int} (h0 : -9223372036854775808 ≤ n) (h1 : n ≤ 9223372036854775807) : fits n := ⟨h0, h1⟩
theorem ret_int {k : IntKind} {a b : Int} (h : a = b) : Ending.returned (.int k a) = .returned (.int k b) := by rw [h]

theorem within_any (n lo hi : Int) (w : World) :
    Calls Tryd.prog 22 #[.int .i64 n, .int .i64 lo, .int .i64 hi] w fun e w' => e = .returned (.bool (decide (lo ≤ n) && decide (n ≤ hi))) ∧ w = w' := by
  go_enter Tryd.func22, Tryd.ntmps22
  go_wp2_with fail
  all_goals
    go_ret
    exact ⟨by first | rfl | (congr 2; simp; omega), rfl⟩

theorem tdiv_lo {a b : Int} (hb : 0 < b) : a / b = if a.tmod b < 0 then a.tdiv b - 1 else a.tdiv b := by
  have h1 := Int.mul_tdiv_add_tmod a b
  have h2 := Int.lt_tmod_of_pos a hb
  have h3 := Int.tmod_lt_of_pos a hb
  split
  · refine ((Int.ediv_emod_unique (a := a) (b := b) (r := a.tmod b + b) (q := a.tdiv b - 1) hb).2 ⟨?_, ?_, ?_⟩).1
    · rw [Int.mul_sub]; omega
    · omega
    · omega
  · refine ((Int.ediv_emod_unique (a := a) (b := b) (r := a.tmod b) (q := a.tdiv b) hb).2 ⟨?_, ?_, ?_⟩).1
    · omega
    · omega
    · omega

theorem tdiv_abs {a b : Int} (hb : 0 < b) {m : Int} (h0 : -m ≤ a) (h1 : a ≤ m) : -m ≤ a.tdiv b ∧ a.tdiv b ≤ m := by
  have h : (a.tdiv b).natAbs = a.natAbs / b.natAbs := Int.natAbs_tdiv a b
  have h2 : a.natAbs / b.natAbs ≤ a.natAbs := Nat.div_le_self _ _
  omega
theorem tdiv_ge {a b : Int} (hb : 0 < b) {m : Int} (h0 : -m ≤ a) (h1 : a ≤ m) : -m ≤ a / b ∧ a / b ≤ m := by
  have h := Int.ediv_nonneg (a := a + b * m) (b := b) (by have : 1 * m ≤ b * m := Int.mul_le_mul_of_nonneg_right (by omega) (by omega); omega) (by omega)
  rw [Int.add_mul_ediv_left _ _ (by omega)] at h
  have := Int.ediv_le_self b (a := a)
  have h3 := (tdiv_abs hb h0 h1).2
  have h4 := tdiv_lo (a := a) hb
  split at h4 <;> omega

/-- 'floor' at a divisor greater than 0, the quotient far from int's ends -/
theorem floor_any (a b : Int) (w : World) (hb : 0 < b) (h0 : -4611686018427387904 ≤ a) (h1 : a ≤ 4611686018427387904) :
    Calls Tryd.prog 43 #[.int .i64 a, .int .i64 b] w fun e w' => e = .returned (.int .i64 (a / b)) ∧ w = w' := by
  obtain ⟨q0, q1⟩ := tdiv_abs hb h0 h1
  have hb0 : ¬ b = 0 := by omega
  have he := tdiv_lo (a := a) hb
  go_enter Tryd.func43, Tryd.ntmps43
  by_cases hs : a.tmod b < 0
  · rw [if_pos hs] at he
    replace he := Lib.hid he
    go_wp2_with fail
    go_ret
    exact ⟨ret_int he.out.symm, rfl⟩
  · rw [if_neg hs] at he
    replace he := Lib.hid he
    go_wp2_with fail
    go_ret
    exact ⟨ret_int he.out.symm, rfl⟩

/-- whether a point is right -/
def rightP (x y : Int) : Bool := decide (-16384 ≤ x) && decide (x ≤ 16384) && (decide (-16384 ≤ y) && decide (y ≤ 16384))


/-- the closure of point.within at 16384 -/
theorem wclos_any (x : Int) (b : Nat) (w : World) (hc : w.cell? ⟨b, 0, none⟩ = some (.int .i64 16384)) :
    Calls Tryd.prog 63 #[.int .i64 x, .pointer (some ⟨b, 0, none⟩)] w fun e w' => e = .returned (.bool (!(decide (-16384 ≤ x) && decide (x ≤ 16384)))) ∧ ∃ q, w' = w.drewN q := by
  go_enter Tryd.func63, Tryd.ntmps63
  by_cases h1 : x < -16384
  · go_wp2_with fail
    go_ret
    exact ⟨by simp; omega, 0, rfl⟩
  · by_cases h2 : 16384 < x
    · go_wp2_with fail
      go_ret
      exact ⟨by simp; omega, 0, rfl⟩
    · go_wp2_with fail
      go_ret
      exact ⟨by simp <;> omega, 0, rfl⟩

theorem pred63 (b : Nat) (w : World) (hb : b < w.heap.size) (hc : w.cell? ⟨b, 0, none⟩ = some (.int .i64 16384)) :
    PredAt Tryd.prog 63 #[.pointer (some ⟨b, 0, none⟩)] (Value.int .i64) (fun x => !(decide (-16384 ≤ x) && decide (x ≤ 16384))) w := fun W x h =>
  wclos_any x b W ((h.cell (p := ⟨b, 0, none⟩) hb).trans hc)

/-- point.within at 16384 and two numbers -/
theorem pwithin_any (x y : Int) (b : Nat) (w : World) (h0 : w.cell? ⟨b, 0, none⟩ = some (.int .i64 x)) (h1 : w.cell? ⟨b, 1, none⟩ = some (.int .i64 y)) :
    Calls Tryd.prog 41 #[.int .i64 16384, .slice (some ⟨b, 0, none⟩) 2 2] w fun e w' => e = .returned (.bool (rightP x y)) ∧ Below w.heap.size w w' := by
  have hl0 := World.block_lt_of_cell? _ _ h0
  have e63 : ∀ args w, (callFunc 63 args).run Tryd.prog w = .ok (.enter 63 args) w := enters_of Tryd.func63 (by kernel_rfl) rfl
  have hcon := Go.Proofs.Tryd.slices_ContainsFunc (Value.int .i64) (fun x => !(decide (-16384 ≤ x) && decide (x ≤ 16384))) 63 #[.pointer (some ⟨w.heap.size, 0, none⟩)] e63 b 0 2 2 [x, y] (w.alloc (.cells #[.int .i64 16384] 3))
    (pred63 w.heap.size _ (by simp) (by simp)) (Nat.le_refl 2) (by omega) (fun j hj => by
      refine Lib.cell?_alloc_some _ ?_
      match j, hj with
      | 0, _ => exact h0
      | 1, _ => exact h1)
  have hr : (([x, y].take 2).any fun x => !(decide (-16384 ≤ x) && decide (x ≤ 16384))) = !rightP x y := by simp [rightP]
  rw [hr] at hcon
  clear hr
  generalize hg : rightP x y = r at hcon ⊢
  clear hg
  go_enter Tryd.func41, Tryd.ntmps41
  go_wp2_with (go_at_call 62; refine hcon.mono ?_; rintro e w' ⟨rfl, q, rfl⟩)
  go_ret
  exact ⟨by simp, below_drewN' ((Below.refl _ w).alloc (Nat.le_refl _) _) q⟩

/-- point.Right -/
theorem right_any (x y : Int) (w : World) :
    Calls Tryd.prog 23 #[.agg #[.int .i64 x, .int .i64 y]] w fun e w' => e = .returned (.bool (rightP x y)) ∧ Below w.heap.size w w' := by
  go_enter Tryd.func23, Tryd.ntmps23
  go_wp2_with (go_at_call 41; refine (pwithin_any x y _ _ (by simp) (by simp)).mono ?_; rintro e w' ⟨rfl, hb_⟩; obtain ⟨p, rfl⟩ := grow_of_below hb_; clear hb_)
  go_ret
  exact ⟨rfl, (by repeat' (first | with_reducible exact Below.refl _ _ | with_reducible exact Nat.le_refl _ | with_reducible assumption | with_reducible refine Go.below_growBy' ?_ ?_ _ | with_reducible refine Below.alloc ?_ ?_ _ | with_reducible refine Below.setCell ?_ ?_ _ | with_reducible refine Below.drew ?_ | with_reducible refine Go.le_alloc ?_ | with_reducible refine Go.le_growBy ?_ | with_reducible refine Go.le_setCell ?_ | with_reducible refine Go.le_drew ?_ | omega | (dsimp only; omega)))⟩
end Go.Proofs.YtjfdbigkbgolmaaDoor
