/-
  Chapter 29: ranges, quotients rounded down, right points. (of every function here: its contract)
  Chapter 29: sheets: Check, Of and what they call.
  Chapter 29: the dot of a point (of, on, Of).
  Chapter 29: the references: Mod, Right, Check, Of and what they call.
-/
import Derived.Test.YtjfdbigkbgolmaaGreatDoorZa
import Derived.Test.YtjfdbigkbgolmaaGreatDoorChecked
import Derived.Test.YtjfdbigkbgolmaaGreatDoorZs
import Derived.Shelf.Abstract
import Derived.Lib.SliceRun
namespace Go.Proofs.YtjfdbigkbgolmaaGreatDoor
set_option linter.unusedVariables false
set_option linter.unusedSimpArgs false
open Go.RowKit Go.Shelf
attribute [local go_sem] Oper.semAt_some

def fits (n : Int) : Prop := -9223372036854775808 ≤ n ∧ n ≤ 9223372036854775807
theorem fits_of {n : Int} (h0 : -9223372036854775808 ≤ n) (h1 : n ≤ 9223372036854775807) : fits n := ⟨h0, h1⟩
theorem ret_int {k : IntKind} {a b : Int} (h : a = b) : Ending.returned (.int k a) = .returned (.int k b) := by rw [h]

theorem within_any (n lo hi : Int) (w : World) :
    Calls Tryz.prog 28 #[.int .i64 n, .int .i64 lo, .int .i64 hi] w fun e w' => e = .returned (.bool (decide (lo ≤ n) && decide (n ≤ hi))) ∧ w = w' := by
  go_enter Tryz.func28, Tryz.ntmps28
  go_wp2_with fail
  all_goals
    go_ret
    exact ⟨by first | rfl | (congr 2; simp; omega), rfl⟩

theorem tdiv_lo {a b : Int} (hb : 0 < b) : a / b = if a.tmod b < 0 then a.tdiv b - 1 else a.tdiv b := by
  have h1 := Int.mul_tdiv_add_tmod a b
  have h2 := Int.lt_tmod_of_pos a hb
  have h3 := Int.tmod_lt_of_pos a hb
  split
  · refine ((Int.ediv_emod_unique (a := a) (b := b) (r := a.tmod b + b) (q := a.tdiv b - 1) hb).2 ⟨?_, ?_, ?_⟩).1
    · rw [Int.mul_sub]; omega
    · omega
    · omega
  · refine ((Int.ediv_emod_unique (a := a) (b := b) (r := a.tmod b) (q := a.tdiv b) hb).2 ⟨?_, ?_, ?_⟩).1
    · omega
    · omega
    · omega

theorem tdiv_abs {a b : Int} (hb : 0 < b) {m : Int} (h0 : -m ≤ a) (h1 : a ≤ m) : -m ≤ a.tdiv b ∧ a.tdiv b ≤ m := by
  have h : (a.tdiv b).natAbs = a.natAbs / b.natAbs := Int.natAbs_tdiv a b
  have h2 : a.natAbs / b.natAbs ≤ a.natAbs := Nat.div_le_self _ _
  omega
theorem tdiv_ge {a b : Int} (hb : 0 < b) {m : Int} (h0 : -m ≤ a) (h1 : a ≤ m) : -m ≤ a / b ∧ a / b ≤ m := by
  have h := Int.ediv_nonneg (a := a + b * m) (b := b) (by have : 1 * m ≤ b * m := Int.mul_le_mul_of_nonneg_right (by omega) (by omega); omega) (by omega)
  rw [Int.add_mul_ediv_left _ _ (by omega)] at h
  have := Int.ediv_le_self b (a := a)
  have h3 := (tdiv_abs hb h0 h1).2
  have h4 := tdiv_lo (a := a) hb
  split at h4 <;> omega

/-- 'floor' at a divisor greater than 0, the quotient far from int's ends -/
theorem floor_any (a b : Int) (w : World) (hb : 0 < b) (h0 : -4611686018427387904 ≤ a) (h1 : a ≤ 4611686018427387904) :
    Calls Tryz.prog 92 #[.int .i64 a, .int .i64 b] w fun e w' => e = .returned (.int .i64 (a / b)) ∧ w = w' := by
  obtain ⟨q0, q1⟩ := tdiv_abs hb h0 h1
  have hb0 : ¬ b = 0 := by omega
  have he := tdiv_lo (a := a) hb
  go_enter Tryz.func92, Tryz.ntmps92
  by_cases hs : a.tmod b < 0
  · rw [if_pos hs] at he
    replace he := Lib.hid he
    go_wp2_with fail
    go_ret
    exact ⟨ret_int he.out.symm, rfl⟩
  · rw [if_neg hs] at he
    replace he := Lib.hid he
    go_wp2_with fail
    go_ret
    exact ⟨ret_int he.out.symm, rfl⟩

/-- whether a point is right -/
def rightP (x y : Int) : Bool := decide (-16384 ≤ x) && decide (x ≤ 16384) && (decide (-16384 ≤ y) && decide (y ≤ 16384))


/-- the closure of point.within at 16384 -/
theorem wclos_any (x : Int) (b : Nat) (w : World) (hc : w.cell? ⟨b, 0, none⟩ = some (.int .i64 16384)) :
    Calls Tryz.prog 118 #[.int .i64 x, .pointer (some ⟨b, 0, none⟩)] w fun e w' => e = .returned (.bool (!(decide (-16384 ≤ x) && decide (x ≤ 16384)))) ∧ ∃ q, w' = w.drewN q := by
  go_enter Tryz.func118, Tryz.ntmps118
  by_cases h1 : x < -16384
  · go_wp2_with fail
    go_ret
    exact ⟨by simp; omega, 0, rfl⟩
  · by_cases h2 : 16384 < x
    · go_wp2_with fail
      go_ret
      exact ⟨by simp; omega, 0, rfl⟩
    · go_wp2_with fail
      go_ret
      exact ⟨by simp <;> omega, 0, rfl⟩

theorem pred63 (b : Nat) (w : World) (hb : b < w.heap.size) (hc : w.cell? ⟨b, 0, none⟩ = some (.int .i64 16384)) :
    PredAt Tryz.prog 118 #[.pointer (some ⟨b, 0, none⟩)] (Value.int .i64) (fun x => !(decide (-16384 ≤ x) && decide (x ≤ 16384))) w := fun W x h =>
  wclos_any x b W ((h.cell (p := ⟨b, 0, none⟩) hb).trans hc)

/-- point.within at 16384 and two numbers -/
theorem pwithin_any (x y : Int) (b : Nat) (w : World) (h0 : w.cell? ⟨b, 0, none⟩ = some (.int .i64 x)) (h1 : w.cell? ⟨b, 1, none⟩ = some (.int .i64 y)) :
    Calls Tryz.prog 90 #[.int .i64 16384, .slice (some ⟨b, 0, none⟩) 2 2] w fun e w' => e = .returned (.bool (rightP x y)) ∧ Below w.heap.size w w' := by
  have hl0 := World.block_lt_of_cell? _ _ h0
  have e63 : ∀ args w, (callFunc 118 args).run Tryz.prog w = .ok (.enter 118 args) w := enters_of Tryz.func118 (by kernel_rfl) rfl
  have hcon := Go.Proofs.Tryz.slices_ContainsFunc (Value.int .i64) (fun x => !(decide (-16384 ≤ x) && decide (x ≤ 16384))) 118 #[.pointer (some ⟨w.heap.size, 0, none⟩)] e63 b 0 2 2 [x, y] (w.alloc (.cells #[.int .i64 16384] 3))
    (pred63 w.heap.size _ (by simp) (by simp)) (Nat.le_refl 2) (by omega) (fun j hj => by
      refine Lib.cell?_alloc_some _ ?_
      match j, hj with
      | 0, _ => exact h0
      | 1, _ => exact h1)
  have hr : (([x, y].take 2).any fun x => !(decide (-16384 ≤ x) && decide (x ≤ 16384))) = !rightP x y := by simp [rightP]
  rw [hr] at hcon
  clear hr
  generalize hg : rightP x y = r at hcon ⊢
  clear hg
  go_enter Tryz.func90, Tryz.ntmps90
  go_wp2_with (go_at_call 117; refine hcon.mono ?_; rintro e w' ⟨rfl, q, rfl⟩)
  go_ret
  exact ⟨by simp, below_drewN' ((Below.refl _ w).alloc (Nat.le_refl _) _) q⟩

/-- point.Right -/
theorem right_any (x y : Int) (w : World) :
    Calls Tryz.prog 46 #[.agg #[.int .i64 x, .int .i64 y]] w fun e w' => e = .returned (.bool (rightP x y)) ∧ Below w.heap.size w w' := by
  go_enter Tryz.func46, Tryz.ntmps46
  go_wp2_with (go_at_call 90; refine (pwithin_any x y _ _ (by simp) (by simp)).mono ?_; rintro e w' ⟨rfl, hb_⟩; obtain ⟨p, rfl⟩ := grow_of_below hb_; clear hb_)
  go_ret
  exact ⟨rfl, (by repeat' (first | with_reducible exact Below.refl _ _ | with_reducible exact Nat.le_refl _ | with_reducible assumption | with_reducible refine Go.below_growBy' ?_ ?_ _ | with_reducible refine Below.alloc ?_ ?_ _ | with_reducible refine Below.setCell ?_ ?_ _ | with_reducible refine Below.drew ?_ | with_reducible refine Go.le_alloc ?_ | with_reducible refine Go.le_growBy ?_ | with_reducible refine Go.le_setCell ?_ | with_reducible refine Go.le_drew ?_ | omega | (dsimp only; omega)))⟩
end Go.Proofs.YtjfdbigkbgolmaaGreatDoor
namespace Go.Proofs.YtjfdbigkbgolmaaGreatDoor
set_option linter.unusedVariables false
set_option linter.unusedSimpArgs false
open Go.RowKit Go.Shelf
attribute [local go_sem] Oper.semAt_some

/-- a sheet's numbers -/
structure Sh where
  ax : Int
  ay : Int
  st : Int
  w : Int
  h : Int
  g : Int
abbrev shV (s : Sh) : Value := .agg #[.int .i64 s.ax, .int .i64 s.ay, .int .i64 s.st, .int .i64 s.w, .int .i64 s.h, .int .i64 s.g]
def inR (lo n hi : Int) : Bool := decide (lo ≤ n) && decide (n ≤ hi)
theorem inR_iff {lo n hi : Int} : inR lo n hi = true ↔ lo ≤ n ∧ n ≤ hi := by simp [inR]
def checkS (s : Sh) : Int :=
  if inR 1 s.st 1024 && inR 1 s.w 80 && inR 1 s.h 80 && inR 1 s.g 4 then
    if rightP s.ax s.ay && rightP (s.ax + s.w * s.st) (s.ay + s.h * s.st) then 0 else 10
  else 3

theorem within_eq {n lo hi : Int} {b : Bool} (h : inR lo n hi = b) (w : World) :
    Calls Tryz.prog 28 #[.int .i64 n, .int .i64 lo, .int .i64 hi] w fun e w' => e = .returned (.bool b) ∧ w = w' := by
  have h' := within_any n lo hi w
  rw [show (decide (lo ≤ n) && decide (n ≤ hi)) = b from h] at h'
  exact h'
theorem right_eq {x y : Int} {b : Bool} (h : rightP x y = b) (w : World) :
    Calls Tryz.prog 46 #[.agg #[.int .i64 x, .int .i64 y]] w fun e w' => e = .returned (.bool b) ∧ Below w.heap.size w w' := by
  have h' := right_any x y w
  rw [h] at h'
  exact h'

theorem add_any (x y a b : Int) (w : World) (h1 : -4611686018427387904 ≤ x) (h2 : x ≤ 4611686018427387903) (h3 : -4611686018427387904 ≤ y) (h4 : y ≤ 4611686018427387903) (h5 : -4611686018427387904 ≤ a) (h6 : a ≤ 4611686018427387903) (h7 : -4611686018427387904 ≤ b) (h8 : b ≤ 4611686018427387903) :
    Calls Tryz.prog 56 #[.agg #[.int .i64 x, .int .i64 y], .agg #[.int .i64 a, .int .i64 b]] w fun e w' => e = .returned (.agg #[.int .i64 (x + a), .int .i64 (y + b)]) ∧ Below w.heap.size w w' := by
  go_enter Tryz.func56, Tryz.ntmps56
  go_wp2_with fail
  exact bodyPost_ret (v := .agg #[.int .i64 (x + a), .int .i64 (y + b)]) (by simp [results, Tryz.results56, go_sem]) rfl ⟨rfl, (by repeat' (first | with_reducible exact Below.refl _ _ | with_reducible exact Nat.le_refl _ | with_reducible assumption | with_reducible refine Go.below_growBy' ?_ ?_ _ | with_reducible refine Below.alloc ?_ ?_ _ | with_reducible refine Below.setCell ?_ ?_ _ | with_reducible refine Below.drew ?_ | with_reducible refine Go.le_alloc ?_ | with_reducible refine Go.le_growBy ?_ | with_reducible refine Go.le_setCell ?_ | with_reducible refine Go.le_drew ?_ | omega | (dsimp only; omega)))⟩

set_option maxHeartbeats 1000000 in
theorem check_any (s : Sh) (w : World) (f0 : fits s.ax) (f1 : fits s.ay) :
    Calls Tryz.prog 19 #[shV s] w fun e w' => e = .returned (.int .i64 (checkS s)) ∧ Below w.heap.size w w' := by
  obtain ⟨ax, ay, st, W, H, G⟩ := s
  obtain ⟨b1, h1⟩ : ∃ b, inR 1 st 1024 = b := ⟨_, rfl⟩
  obtain ⟨b2, h2⟩ : ∃ b, inR 1 W 80 = b := ⟨_, rfl⟩
  obtain ⟨b3, h3⟩ : ∃ b, inR 1 H 80 = b := ⟨_, rfl⟩
  obtain ⟨b4, h4⟩ : ∃ b, inR 1 G 4 = b := ⟨_, rfl⟩
  obtain ⟨b5, h5⟩ : ∃ b, rightP ax ay = b := ⟨_, rfl⟩
  obtain ⟨b6, h6⟩ : ∃ b, rightP (ax + W * st) (ay + H * st) = b := ⟨_, rfl⟩
  have hr : checkS ⟨ax, ay, st, W, H, G⟩ = if b1 && b2 && b3 && b4 then (if b5 && b6 then 0 else 10) else 3 := by
    unfold checkS
    simp only [h1, h2, h3, h4, h5, h6]
  rw [hr]
  clear hr
  cases b1 with
  | false =>
    replace h1 := Lib.hid h1
    clear h2 h3 h4 h5 h6
    go_enter Tryz.func19, Tryz.ntmps19
    go_wp2_with (go_at_call 28; refine (within_eq (by first | with_reducible exact h1.out) _).mono ?_; rintro e w' ⟨rfl, rfl⟩)
    go_ret
    exact ⟨rfl, (by repeat' (first | with_reducible exact Below.refl _ _ | with_reducible exact Nat.le_refl _ | with_reducible assumption | with_reducible refine Go.below_growBy' ?_ ?_ _ | with_reducible refine Below.alloc ?_ ?_ _ | with_reducible refine Below.setCell ?_ ?_ _ | with_reducible refine Below.drew ?_ | with_reducible refine Go.le_alloc ?_ | with_reducible refine Go.le_growBy ?_ | with_reducible refine Go.le_setCell ?_ | with_reducible refine Go.le_drew ?_ | omega | (dsimp only; omega)))⟩
  | true =>
  cases b2 with
  | false =>
    replace h1 := Lib.hid h1
    replace h2 := Lib.hid h2
    clear h3 h4 h5 h6
    go_enter Tryz.func19, Tryz.ntmps19
    go_wp2_with (go_at_call 28; refine (within_eq (by first | with_reducible exact h1.out | with_reducible exact h2.out) _).mono ?_; rintro e w' ⟨rfl, rfl⟩)
    go_ret
    exact ⟨rfl, (by repeat' (first | with_reducible exact Below.refl _ _ | with_reducible exact Nat.le_refl _ | with_reducible assumption | with_reducible refine Go.below_growBy' ?_ ?_ _ | with_reducible refine Below.alloc ?_ ?_ _ | with_reducible refine Below.setCell ?_ ?_ _ | with_reducible refine Below.drew ?_ | with_reducible refine Go.le_alloc ?_ | with_reducible refine Go.le_growBy ?_ | with_reducible refine Go.le_setCell ?_ | with_reducible refine Go.le_drew ?_ | omega | (dsimp only; omega)))⟩
  | true =>
  cases b3 with
  | false =>
    replace h1 := Lib.hid h1
    replace h2 := Lib.hid h2
    replace h3 := Lib.hid h3
    clear h4 h5 h6
    go_enter Tryz.func19, Tryz.ntmps19
    go_wp2_with (go_at_call 28; refine (within_eq (by first | with_reducible exact h1.out | with_reducible exact h2.out | with_reducible exact h3.out) _).mono ?_; rintro e w' ⟨rfl, rfl⟩)
    go_ret
    exact ⟨rfl, (by repeat' (first | with_reducible exact Below.refl _ _ | with_reducible exact Nat.le_refl _ | with_reducible assumption | with_reducible refine Go.below_growBy' ?_ ?_ _ | with_reducible refine Below.alloc ?_ ?_ _ | with_reducible refine Below.setCell ?_ ?_ _ | with_reducible refine Below.drew ?_ | with_reducible refine Go.le_alloc ?_ | with_reducible refine Go.le_growBy ?_ | with_reducible refine Go.le_setCell ?_ | with_reducible refine Go.le_drew ?_ | omega | (dsimp only; omega)))⟩
  | true =>
  cases b4 with
  | false =>
    replace h1 := Lib.hid h1
    replace h2 := Lib.hid h2
    replace h3 := Lib.hid h3
    replace h4 := Lib.hid h4
    clear h5 h6
    go_enter Tryz.func19, Tryz.ntmps19
    go_wp2_with (go_at_call 28; refine (within_eq (by first | with_reducible exact h1.out | with_reducible exact h2.out | with_reducible exact h3.out | with_reducible exact h4.out) _).mono ?_; rintro e w' ⟨rfl, rfl⟩)
    go_ret
    exact ⟨rfl, (by repeat' (first | with_reducible exact Below.refl _ _ | with_reducible exact Nat.le_refl _ | with_reducible assumption | with_reducible refine Go.below_growBy' ?_ ?_ _ | with_reducible refine Below.alloc ?_ ?_ _ | with_reducible refine Below.setCell ?_ ?_ _ | with_reducible refine Below.drew ?_ | with_reducible refine Go.le_alloc ?_ | with_reducible refine Go.le_growBy ?_ | with_reducible refine Go.le_setCell ?_ | with_reducible refine Go.le_drew ?_ | omega | (dsimp only; omega)))⟩
  | true =>
  have q1 := inR_iff.1 h1
  have q2 := inR_iff.1 h2
  have q3 := inR_iff.1 h3
  obtain ⟨q10, q11⟩ := q1
  obtain ⟨q20, q21⟩ := q2
  obtain ⟨q30, q31⟩ := q3
  have m1 := Int.mul_le_mul (a := W) (b := st) (c := 80) (d := 1024) q21 q11 (by omega) (by omega)
  have m2 := Int.mul_le_mul (a := H) (b := st) (c := 80) (d := 1024) q31 q11 (by omega) (by omega)
  have m3 := Int.mul_nonneg (a := W) (b := st) (by omega) (by omega)
  have m4 := Int.mul_nonneg (a := H) (b := st) (by omega) (by omega)
  have m1 : W * st ≤ 81920 := m1
  have m2 : H * st ≤ 81920 := m2
  cases b5 with
  | false =>
    replace h1 := Lib.hid h1
    replace h2 := Lib.hid h2
    replace h3 := Lib.hid h3
    replace h4 := Lib.hid h4
    replace h5 := Lib.hid h5
    clear h6
    go_enter Tryz.func19, Tryz.ntmps19
    go_wp2_with (first | (go_at_call 28; refine (within_eq (by first | with_reducible exact h1.out | with_reducible exact h2.out | with_reducible exact h3.out | with_reducible exact h4.out) _).mono ?_; rintro e w' ⟨rfl, rfl⟩) | (go_at_call 46; refine (right_eq (by first | with_reducible exact h5.out) _).mono ?_; rintro e w' ⟨rfl, hb_⟩; obtain ⟨p, rfl⟩ := grow_of_below hb_; clear hb_))
    go_ret
    exact ⟨rfl, (by repeat' (first | with_reducible exact Below.refl _ _ | with_reducible exact Nat.le_refl _ | with_reducible assumption | with_reducible refine Go.below_growBy' ?_ ?_ _ | with_reducible refine Below.alloc ?_ ?_ _ | with_reducible refine Below.setCell ?_ ?_ _ | with_reducible refine Below.drew ?_ | with_reducible refine Go.le_alloc ?_ | with_reducible refine Go.le_growBy ?_ | with_reducible refine Go.le_setCell ?_ | with_reducible refine Go.le_drew ?_ | omega | (dsimp only; omega)))⟩
  | true =>
  have q5 : (-16384 ≤ ax ∧ ax ≤ 16384) ∧ -16384 ≤ ay ∧ ay ≤ 16384 := by simpa [rightP] using h5
  obtain ⟨⟨q50, q51⟩, q52, q53⟩ := q5
  cases b6 with
  | false =>
    replace h1 := Lib.hid h1
    replace h2 := Lib.hid h2
    replace h3 := Lib.hid h3
    replace h4 := Lib.hid h4
    replace h5 := Lib.hid h5
    replace h6 := Lib.hid h6
    go_enter Tryz.func19, Tryz.ntmps19
    go_wp2_with (first | (go_at_call 28; refine (within_eq (by first | with_reducible exact h1.out | with_reducible exact h2.out | with_reducible exact h3.out | with_reducible exact h4.out) _).mono ?_; rintro e w' ⟨rfl, rfl⟩) | (go_at_call 46; refine (right_eq (by first | with_reducible exact h5.out | with_reducible exact h6.out) _).mono ?_; rintro e w' ⟨rfl, hb_⟩; obtain ⟨p, rfl⟩ := grow_of_below hb_; clear hb_) | (go_at_call 56; refine (add_any _ _ _ _ _ (by omega) (by omega) (by omega) (by omega) (by omega) (by omega) (by omega) (by omega)).mono ?_; rintro e w' ⟨rfl, hb_⟩; obtain ⟨p, rfl⟩ := grow_of_below hb_; clear hb_))
    go_ret
    exact ⟨rfl, (by repeat' (first | with_reducible exact Below.refl _ _ | with_reducible exact Nat.le_refl _ | with_reducible assumption | with_reducible refine Go.below_growBy' ?_ ?_ _ | with_reducible refine Below.alloc ?_ ?_ _ | with_reducible refine Below.setCell ?_ ?_ _ | with_reducible refine Below.drew ?_ | with_reducible refine Go.le_alloc ?_ | with_reducible refine Go.le_growBy ?_ | with_reducible refine Go.le_setCell ?_ | with_reducible refine Go.le_drew ?_ | omega | (dsimp only; omega)))⟩
  | true =>
    replace h1 := Lib.hid h1
    replace h2 := Lib.hid h2
    replace h3 := Lib.hid h3
    replace h4 := Lib.hid h4
    replace h5 := Lib.hid h5
    replace h6 := Lib.hid h6
    go_enter Tryz.func19, Tryz.ntmps19
    go_wp2_with (first | (go_at_call 28; refine (within_eq (by first | with_reducible exact h1.out | with_reducible exact h2.out | with_reducible exact h3.out | with_reducible exact h4.out) _).mono ?_; rintro e w' ⟨rfl, rfl⟩) | (go_at_call 46; refine (right_eq (by first | with_reducible exact h5.out | with_reducible exact h6.out) _).mono ?_; rintro e w' ⟨rfl, hb_⟩; obtain ⟨p, rfl⟩ := grow_of_below hb_; clear hb_) | (go_at_call 56; refine (add_any _ _ _ _ _ (by omega) (by omega) (by omega) (by omega) (by omega) (by omega) (by omega) (by omega)).mono ?_; rintro e w' ⟨rfl, hb_⟩; obtain ⟨p, rfl⟩ := grow_of_below hb_; clear hb_))
    go_ret
    exact ⟨rfl, (by repeat' (first | with_reducible exact Below.refl _ _ | with_reducible exact Nat.le_refl _ | with_reducible assumption | with_reducible refine Go.below_growBy' ?_ ?_ _ | with_reducible refine Below.alloc ?_ ?_ _ | with_reducible refine Below.setCell ?_ ?_ _ | with_reducible refine Below.drew ?_ | with_reducible refine Go.le_alloc ?_ | with_reducible refine Go.le_growBy ?_ | with_reducible refine Go.le_setCell ?_ | with_reducible refine Go.le_drew ?_ | omega | (dsimp only; omega)))⟩
end Go.Proofs.YtjfdbigkbgolmaaGreatDoor
namespace Go.Proofs.YtjfdbigkbgolmaaGreatDoor
set_option linter.unusedVariables false
set_option linter.unusedSimpArgs false
open Go.RowKit Go.Shelf
attribute [local go_sem] Oper.semAt_some

def dotX (s : Sh) (x : Int) : Int := (x - s.ax) / s.st
def dotY (s : Sh) (y : Int) : Int := (y - s.ay) / s.st
def onS (s : Sh) (i j : Int) : Bool := inR 0 i (s.w - 1) && inR 0 j (s.h - 1)

/-- a sheet that Check accepts -/
structure OkS (s : Sh) : Prop where
  st0 : 1 ≤ s.st
  st1 : s.st ≤ 1024
  w0 : 1 ≤ s.w
  w1 : s.w ≤ 80
  h0 : 1 ≤ s.h
  h1 : s.h ≤ 80
  x0 : -16384 ≤ s.ax
  x1 : s.ax ≤ 16384
  y0 : -16384 ≤ s.ay
  y1 : s.ay ≤ 16384
theorem rightP_iff {x y : Int} : rightP x y = true ↔ (-16384 ≤ x ∧ x ≤ 16384) ∧ -16384 ≤ y ∧ y ≤ 16384 := by simp [rightP]
theorem okS_of {s : Sh} (h : checkS s = 0) : OkS s := by
  unfold checkS at h
  split at h
  · rename_i h1
    split at h
    · rename_i h2
      simp only [Bool.and_eq_true, inR_iff, rightP_iff] at h1 h2
      exact ⟨by omega, by omega, by omega, by omega, by omega, by omega, by omega, by omega, by omega, by omega⟩
    · omega
  · omega

theorem floor_eq {a b r : Int} (hr : a / b = r) (w : World) (hb : 0 < b) (h0 : -4611686018427387904 ≤ a) (h1 : a ≤ 4611686018427387904) :
    Calls Tryz.prog 92 #[.int .i64 a, .int .i64 b] w fun e w' => e = .returned (.int .i64 r) ∧ w = w' := by
  have h := floor_any a b w hb h0 h1
  rw [hr] at h
  exact h

set_option maxRecDepth 100000 in
set_option maxHeartbeats 1000000 in
theorem of_any (s : Sh) (x y i j : Int) (w : World) (hi : dotX s x = i) (hj : dotY s y = j) (hs : OkS s) (x0 : -1048576 ≤ x) (x1 : x ≤ 1048576) (y0 : -1048576 ≤ y) (y1 : y ≤ 1048576) :
    Calls Tryz.prog 48 #[shV s, .agg #[.int .i64 x, .int .i64 y]] w fun e w' => e = .returned (.agg #[.int .i64 i, .int .i64 j]) ∧ Below w.heap.size w w' := by
  obtain ⟨ax, ay, st, W, H, G⟩ := s
  obtain ⟨s0, s1, -, -, -, -, a0, a1, b0, b1⟩ := hs
  simp only [dotX, dotY] at hi hj s0 s1 a0 a1 b0 b1
  replace hi := Lib.hid hi
  replace hj := Lib.hid hj
  go_enter Tryz.func48, Tryz.ntmps48
  go_wp2_with fail
  first | with_reducible refine wp_region_grow_tail2 19 (by kernel_rfl) (by kernel_rfl) ?_ | with_reducible refine wp_region_grow_tail 19 (by kernel_rfl) (by kernel_rfl) ?_
  simp only [List.take_succ_cons, List.take_zero, List.drop_succ_cons, List.drop_zero]
  repeat (first | go_big_quiet_step ((go_at_call 92; exact Calls.grow_of_same (floor_eq (by first | with_reducible exact hi.out | with_reducible exact hj.out) _ (by omega) (by omega) (by omega)))) | quiet_step ((go_at_call 92; exact Calls.grow_of_same (floor_eq (by first | with_reducible exact hi.out | with_reducible exact hj.out) _ (by omega) (by omega) (by omega)))))
  refine wpQuiet_nil ?_
  intro _ hw_
  obtain ⟨p, hw_⟩ := hw_
  subst hw_
  go_wp2_with fail
  exact bodyPost_ret (v := .agg #[.int .i64 i, .int .i64 j]) (by simp [results, Tryz.results48, go_sem]) rfl ⟨rfl, (by repeat' (first | with_reducible exact Below.refl _ _ | with_reducible exact Nat.le_refl _ | with_reducible assumption | with_reducible refine Go.below_growBy' ?_ ?_ _ | with_reducible refine Below.alloc ?_ ?_ _ | with_reducible refine Below.setCell ?_ ?_ _ | with_reducible refine Below.drew ?_ | with_reducible refine Go.le_alloc ?_ | with_reducible refine Go.le_growBy ?_ | with_reducible refine Go.le_setCell ?_ | with_reducible refine Go.le_drew ?_ | omega | (dsimp only; omega)))⟩

theorem on_any (s : Sh) (i j : Int) (b : Bool) (w : World) (hb : onS s i j = b) (hs : OkS s) :
    Calls Tryz.prog 33 #[shV s, .agg #[.int .i64 i, .int .i64 j]] w fun e w' => e = .returned (.bool b) ∧ Below w.heap.size w w' := by
  obtain ⟨ax, ay, st, W, H, G⟩ := s
  obtain ⟨s0, s1, u0, u1, v0, v1, a0, a1, b0, b1⟩ := hs
  simp only [onS] at hb u0 u1 v0 v1
  obtain ⟨c1, h1⟩ : ∃ b, inR 0 i (W - 1) = b := ⟨_, rfl⟩
  obtain ⟨c2, h2⟩ : ∃ b, inR 0 j (H - 1) = b := ⟨_, rfl⟩
  rw [h1, h2] at hb
  subst hb
  replace h1 := Lib.hid h1
  replace h2 := Lib.hid h2
  cases c1
  · go_enter Tryz.func33, Tryz.ntmps33
    go_wp2_with (go_at_call 28; refine (within_eq (by first | with_reducible exact h1.out) _).mono ?_; rintro e w' ⟨rfl, rfl⟩)
    go_ret
    exact ⟨rfl, (by repeat' (first | with_reducible exact Below.refl _ _ | with_reducible exact Nat.le_refl _ | with_reducible assumption | with_reducible refine Go.below_growBy' ?_ ?_ _ | with_reducible refine Below.alloc ?_ ?_ _ | with_reducible refine Below.setCell ?_ ?_ _ | with_reducible refine Below.drew ?_ | with_reducible refine Go.le_alloc ?_ | with_reducible refine Go.le_growBy ?_ | with_reducible refine Go.le_setCell ?_ | with_reducible refine Go.le_drew ?_ | omega | (dsimp only; omega)))⟩
  · go_enter Tryz.func33, Tryz.ntmps33
    go_wp2_with (go_at_call 28; refine (within_eq (by first | with_reducible exact h1.out | with_reducible exact h2.out) _).mono ?_; rintro e w' ⟨rfl, rfl⟩)
    go_ret
    exact ⟨rfl, (by repeat' (first | with_reducible exact Below.refl _ _ | with_reducible exact Nat.le_refl _ | with_reducible assumption | with_reducible refine Go.below_growBy' ?_ ?_ _ | with_reducible refine Below.alloc ?_ ?_ _ | with_reducible refine Below.setCell ?_ ?_ _ | with_reducible refine Below.drew ?_ | with_reducible refine Go.le_alloc ?_ | with_reducible refine Go.le_growBy ?_ | with_reducible refine Go.le_setCell ?_ | with_reducible refine Go.le_drew ?_ | omega | (dsimp only; omega)))⟩

/-- what Of returns -/
def ofS (s : Sh) (x y : Int) : Int × Int × Bool :=
  if checkS s = 0 ∧ rightP x y = true ∧ onS s (dotX s x) (dotY s y) = true then (dotX s x, dotY s y, true) else (0, 0, false)

theorem check_eq {s : Sh} {r : Int} (hr : checkS s = r) (w : World) (f0 : fits s.ax) (f1 : fits s.ay) :
    Calls Tryz.prog 19 #[shV s] w fun e w' => e = .returned (.int .i64 r) ∧ Below w.heap.size w w' := by
  have h := check_any s w f0 f1
  rw [hr] at h
  exact h

set_option maxHeartbeats 1000000 in
theorem ofc_any (s : Sh) (x y : Int) (w : World) (f0 : fits s.ax) (f1 : fits s.ay) :
    Calls Tryz.prog 27 #[shV s, .agg #[.int .i64 x, .int .i64 y]] w fun e w' => e = .returned (.tuple #[.int .i64 (ofS s x y).1, .int .i64 (ofS s x y).2.1, .bool (ofS s x y).2.2]) ∧ Below w.heap.size w w' := by
  by_cases hc : checkS s = 0
  · have hs := okS_of hc
    obtain ⟨b1, h1⟩ : ∃ b, rightP x y = b := ⟨_, rfl⟩
    obtain ⟨i, hi⟩ : ∃ i, dotX s x = i := ⟨_, rfl⟩
    obtain ⟨j, hj⟩ : ∃ j, dotY s y = j := ⟨_, rfl⟩
    obtain ⟨b2, h2⟩ : ∃ b, onS s i j = b := ⟨_, rfl⟩
    have hr : ofS s x y = if b1 = true ∧ b2 = true then (i, j, true) else (0, 0, false) := by
      unfold ofS
      simp only [hc, h1, hi, hj, h2, true_and]
    rw [hr]
    clear hr
    replace hc := Lib.hid hc
    cases b1 with
    | false =>
      replace h1 := Lib.hid h1
      replace hi := Lib.hid hi
      replace hj := Lib.hid hj
      obtain ⟨ax, ay, st, W, H, G⟩ := s
      clear h2
      have hre : (if false = true ∧ b2 = true then (i, j, true) else (0, 0, false)) = ((0, 0, false) : Int × Int × Bool) := by simp
      rw [hre]
      clear hre
      go_enter Tryz.func27, Tryz.ntmps27
      go_wp2_with (first | (go_at_call 19; refine (check_eq hc.out _ f0 f1).mono ?_; rintro e w' ⟨rfl, hb_⟩; obtain ⟨p, rfl⟩ := grow_of_below hb_; clear hb_) | (go_at_call 46; refine (right_eq h1.out _).mono ?_; rintro e w' ⟨rfl, hb_⟩; obtain ⟨p, rfl⟩ := grow_of_below hb_; clear hb_))
      exact bodyPost_ret (v := .tuple #[.int .i64 0, .int .i64 0, .bool false]) (by simp [results, Tryz.results27, go_sem]) rfl ⟨rfl, (by repeat' (first | with_reducible exact Below.refl _ _ | with_reducible exact Nat.le_refl _ | with_reducible assumption | with_reducible refine Go.below_growBy' ?_ ?_ _ | with_reducible refine Below.alloc ?_ ?_ _ | with_reducible refine Below.setCell ?_ ?_ _ | with_reducible refine Below.drew ?_ | with_reducible refine Go.le_alloc ?_ | with_reducible refine Go.le_growBy ?_ | with_reducible refine Go.le_setCell ?_ | with_reducible refine Go.le_drew ?_ | omega | (dsimp only; omega)))⟩
    | true =>
      obtain ⟨⟨x0, x1⟩, y0, y1⟩ := rightP_iff.1 h1
      replace h1 := Lib.hid h1
      replace hi := Lib.hid hi
      replace hj := Lib.hid hj
      replace h2 := Lib.hid h2
      obtain ⟨ax, ay, st, W, H, G⟩ := s
      cases b2 <;>
      · go_enter Tryz.func27, Tryz.ntmps27
        go_wp2_with (first | (go_at_call 19; refine (check_eq hc.out _ f0 f1).mono ?_; rintro e w' ⟨rfl, hb_⟩; obtain ⟨p, rfl⟩ := grow_of_below hb_; clear hb_) | (go_at_call 46; refine (right_eq h1.out _).mono ?_; rintro e w' ⟨rfl, hb_⟩; obtain ⟨p, rfl⟩ := grow_of_below hb_; clear hb_) | (go_at_call 48; refine (of_any ⟨ax, ay, st, W, H, G⟩ x y i j _ hi.out hj.out hs (by omega) (by omega) (by omega) (by omega)).mono ?_; rintro e w' ⟨rfl, hb_⟩; obtain ⟨p, rfl⟩ := grow_of_below hb_; clear hb_) | (go_at_call 33; refine (on_any ⟨ax, ay, st, W, H, G⟩ i j _ _ h2.out hs).mono ?_; rintro e w' ⟨rfl, hb_⟩; obtain ⟨p, rfl⟩ := grow_of_below hb_; clear hb_))
        first
          | exact bodyPost_ret (v := .tuple #[.int .i64 0, .int .i64 0, .bool false]) (by simp [results, Tryz.results27, go_sem]) rfl ⟨rfl, (by repeat' (first | with_reducible exact Below.refl _ _ | with_reducible exact Nat.le_refl _ | with_reducible assumption | with_reducible refine Go.below_growBy' ?_ ?_ _ | with_reducible refine Below.alloc ?_ ?_ _ | with_reducible refine Below.setCell ?_ ?_ _ | with_reducible refine Below.drew ?_ | with_reducible refine Go.le_alloc ?_ | with_reducible refine Go.le_growBy ?_ | with_reducible refine Go.le_setCell ?_ | with_reducible refine Go.le_drew ?_ | omega | (dsimp only; omega)))⟩
          | skip
        all_goals
          first | with_reducible refine wp_region_grow2 (by kernel_rfl) (by kernel_rfl) ?_ | with_reducible refine wp_region_grow (by kernel_rfl) (by kernel_rfl) ?_
          repeat (first | go_big_quiet_step (fail) | quiet_step (fail))
          refine wpQuiet_nil ?_
          intro _ hw_
          obtain ⟨p, hw_⟩ := hw_
          subst hw_
          go_wp2_with fail
          exact bodyPost_ret (v := .tuple #[.int .i64 i, .int .i64 j, .bool true]) (by simp [results, Tryz.results27, go_sem]) rfl ⟨rfl, (by repeat' (first | with_reducible exact Below.refl _ _ | with_reducible exact Nat.le_refl _ | with_reducible assumption | with_reducible refine Go.below_growBy' ?_ ?_ _ | with_reducible refine Below.alloc ?_ ?_ _ | with_reducible refine Below.setCell ?_ ?_ _ | with_reducible refine Below.drew ?_ | with_reducible refine Go.le_alloc ?_ | with_reducible refine Go.le_growBy ?_ | with_reducible refine Go.le_setCell ?_ | with_reducible refine Go.le_drew ?_ | omega | (dsimp only; omega)))⟩
  · have hr : ofS s x y = (0, 0, false) := by unfold ofS; rw [if_neg (fun h => hc h.1)]
    rw [hr]
    clear hr
    obtain ⟨c, hcc⟩ : ∃ c, checkS s = c := ⟨_, rfl⟩
    rw [hcc] at hc
    replace hcc := Lib.hid hcc
    obtain ⟨ax, ay, st, W, H, G⟩ := s
    go_enter Tryz.func27, Tryz.ntmps27
    go_wp2_with (go_at_call 19; refine (check_eq hcc.out _ f0 f1).mono ?_; rintro e w' ⟨rfl, hb_⟩; obtain ⟨p, rfl⟩ := grow_of_below hb_; clear hb_)
    exact bodyPost_ret (v := .tuple #[.int .i64 0, .int .i64 0, .bool false]) (by simp [results, Tryz.results27, go_sem]) rfl ⟨rfl, (by repeat' (first | with_reducible exact Below.refl _ _ | with_reducible exact Nat.le_refl _ | with_reducible assumption | with_reducible refine Go.below_growBy' ?_ ?_ _ | with_reducible refine Below.alloc ?_ ?_ _ | with_reducible refine Below.setCell ?_ ?_ _ | with_reducible refine Below.drew ?_ | with_reducible refine Go.le_alloc ?_ | with_reducible refine Go.le_growBy ?_ | with_reducible refine Go.le_setCell ?_ | with_reducible refine Go.le_drew ?_ | omega | (dsimp only; omega)))⟩
end Go.Proofs.YtjfdbigkbgolmaaGreatDoor
namespace Go.Proofs.YtjfdbigkbgolmaaGreatDoor
set_option linter.unusedVariables false
set_option linter.unusedSimpArgs false
open Go.RowKit Go.Shelf
attribute [local go_sem] Oper.semAt_some

theorem mod_mod (n m : Int) (hm : 1 ≤ m) : (n.tmod m + m) % m = n % m := by
  rw [Int.add_emod_right, Int.tmod_eq_emod]
  split
  · rw [Int.natCast_zero, Int.sub_zero, Int.emod_emod_of_dvd _ (Int.dvd_refl m)]
  · rw [Int.natAbs_of_nonneg (by omega), Int.sub_emod_right, Int.emod_emod_of_dvd _ (Int.dvd_refl m)]

set_option maxHeartbeats 400000 in
theorem mod_any (n m : Int) (w : World) (hn : fits n) (h1 : 1 ≤ m) (h2 : m ≤ 4611686018427387904) :
    Calls Tryz.prog 58 #[.int .i64 n, .int .i64 m] w fun r w' => r = .returned (.int .i64 (n % m)) ∧ w = w' := by
  obtain ⟨n0, n1⟩ := hn
  have b0 := Int.lt_tmod_of_pos n (b := m) (by omega)
  have b1 := Int.tmod_lt_of_pos n (b := m) (by omega)
  have b2 : 0 ≤ n.tmod m + m := by omega
  have b3 : n.tmod m + m ≤ 9223372036854775807 := by omega
  have h0 : (m == 0) = false := by simp; omega
  have HM := Lib.hid (mod_mod n m h1)
  go_enter Tryz.func58, Tryz.ntmps58
  go_wp2_with fail
  go_ret
  exact ⟨ret_int HM.out, rfl⟩

theorem rbetween_any (n lo hi : Int) (w : World) :
    Calls Tryz.prog 93 #[.int .i64 n, .int .i64 lo, .int .i64 hi] w fun e w' => e = .returned (.bool (inR lo n hi)) ∧ w = w' := by
  go_enter Tryz.func93, Tryz.ntmps93
  go_wp2_with fail
  all_goals
    go_ret
    exact ⟨by unfold inR; first | rfl | (congr 2; simp; omega), rfl⟩
theorem rbetween_eq {n lo hi : Int} {b : Bool} (h : inR lo n hi = b) (w : World) :
    Calls Tryz.prog 93 #[.int .i64 n, .int .i64 lo, .int .i64 hi] w fun e w' => e = .returned (.bool b) ∧ w = w' := by
  have h' := rbetween_any n lo hi w
  rw [h] at h'
  exact h'
theorem rightP_inR (x y : Int) : rightP x y = (inR (-16384) x 16384 && inR (-16384) y 16384) := rfl
theorem rright_any (x y : Int) (w : World) :
    Calls Tryz.prog 50 #[.agg #[.int .i64 x, .int .i64 y]] w fun e w' => e = .returned (.bool (rightP x y)) ∧ Below w.heap.size w w' := by
  rw [rightP_inR]
  obtain ⟨c1, h1⟩ : ∃ b, inR (-16384) x 16384 = b := ⟨_, rfl⟩
  obtain ⟨c2, h2⟩ : ∃ b, inR (-16384) y 16384 = b := ⟨_, rfl⟩
  rw [h1, h2]
  replace h1 := Lib.hid h1
  replace h2 := Lib.hid h2
  cases c1 <;>
  · go_enter Tryz.func50, Tryz.ntmps50
    go_wp2_with (go_at_call 93; refine (rbetween_eq (by first | with_reducible exact h1.out | with_reducible exact h2.out) _).mono ?_; rintro e w' ⟨rfl, rfl⟩)
    go_ret
    exact ⟨by first | rfl | (simp; done), (by repeat' (first | with_reducible exact Below.refl _ _ | with_reducible exact Nat.le_refl _ | with_reducible assumption | with_reducible refine Go.below_growBy' ?_ ?_ _ | with_reducible refine Below.alloc ?_ ?_ _ | with_reducible refine Below.setCell ?_ ?_ _ | with_reducible refine Below.drew ?_ | with_reducible refine Go.le_alloc ?_ | with_reducible refine Go.le_growBy ?_ | with_reducible refine Go.le_setCell ?_ | with_reducible refine Go.le_drew ?_ | omega | (dsimp only; omega)))⟩
theorem rright_eq {x y : Int} {b : Bool} (h : rightP x y = b) (w : World) :
    Calls Tryz.prog 50 #[.agg #[.int .i64 x, .int .i64 y]] w fun e w' => e = .returned (.bool b) ∧ Below w.heap.size w w' := by
  have h' := rright_any x y w
  rw [h] at h'
  exact h'

theorem tdiv_lo2 {a b : Int} (hb : 0 < b) : a / b = if a < a.tdiv b * b then a.tdiv b - 1 else a.tdiv b := by
  rw [tdiv_lo hb]
  have h1 := Int.mul_tdiv_add_tmod a b
  rw [Int.mul_comm] at h1
  split <;> split <;> omega
theorem rfloor_eq {a b r : Int} (hr : a / b = r) (w : World) (hb : 0 < b) (hb2 : b ≤ 1048576) (h0 : -1099511627776 ≤ a) (h1 : a ≤ 1099511627776) :
    Calls Tryz.prog 95 #[.int .i64 a, .int .i64 b] w fun e w' => e = .returned (.int .i64 r) ∧ w = w' := by
  subst hr
  obtain ⟨q0, q1⟩ := tdiv_abs hb h0 h1
  have hb0 : ¬ b = 0 := by omega
  have he := tdiv_lo2 (a := a) hb
  have hm := Int.mul_tdiv_add_tmod a b
  have m1 := Int.lt_tmod_of_pos a hb
  have m2 := Int.tmod_lt_of_pos a hb
  rw [Int.mul_comm] at hm
  have p0 : -1099512676352 ≤ a.tdiv b * b := by omega
  have p1 : a.tdiv b * b ≤ 1099512676352 := by omega
  clear hm m1 m2
  by_cases hs : a < a.tdiv b * b
  · rw [if_pos hs] at he
    replace he := Lib.hid he
    go_enter Tryz.func95, Tryz.ntmps95
    go_wp2_with fail
    go_ret
    exact ⟨ret_int he.out.symm, rfl⟩
  · rw [if_neg hs] at he
    replace he := Lib.hid he
    go_enter Tryz.func95, Tryz.ntmps95
    go_wp2_with fail
    go_ret
    exact ⟨ret_int he.out.symm, rfl⟩

set_option maxRecDepth 100000 in
set_option maxHeartbeats 1000000 in
theorem rdot_any (s : Sh) (x y i j : Int) (w : World) (hi : dotX s x = i) (hj : dotY s y = j) (hs : OkS s) (x0 : -1048576 ≤ x) (x1 : x ≤ 1048576) (y0 : -1048576 ≤ y) (y1 : y ≤ 1048576) :
    Calls Tryz.prog 52 #[shV s, .agg #[.int .i64 x, .int .i64 y]] w fun e w' => e = .returned (.agg #[.int .i64 i, .int .i64 j]) ∧ Below w.heap.size w w' := by
  obtain ⟨ax, ay, st, W, H, G⟩ := s
  obtain ⟨s0, s1, -, -, -, -, a0, a1, b0, b1⟩ := hs
  simp only [dotX, dotY] at hi hj s0 s1 a0 a1 b0 b1
  replace hi := Lib.hid hi
  replace hj := Lib.hid hj
  go_enter Tryz.func52, Tryz.ntmps52
  go_wp2_with fail
  first | with_reducible refine wp_region_grow_tail2 18 (by kernel_rfl) (by kernel_rfl) ?_ | with_reducible refine wp_region_grow_tail 18 (by kernel_rfl) (by kernel_rfl) ?_
  simp only [List.take_succ_cons, List.take_zero, List.drop_succ_cons, List.drop_zero]
  repeat (first | go_big_quiet_step ((go_at_call 95; exact Calls.grow_of_same (rfloor_eq (by first | with_reducible exact hi.out | with_reducible exact hj.out) _ (by omega) (by omega) (by omega) (by omega)))) | quiet_step ((go_at_call 95; exact Calls.grow_of_same (rfloor_eq (by first | with_reducible exact hi.out | with_reducible exact hj.out) _ (by omega) (by omega) (by omega) (by omega)))))
  refine wpQuiet_nil ?_
  intro _ hw_
  obtain ⟨p, hw_⟩ := hw_
  subst hw_
  go_wp2_with fail
  exact bodyPost_ret (v := .agg #[.int .i64 i, .int .i64 j]) (by simp [results, Tryz.results52, go_sem]) rfl ⟨rfl, (by repeat' (first | with_reducible exact Below.refl _ _ | with_reducible exact Nat.le_refl _ | with_reducible assumption | with_reducible refine Go.below_growBy' ?_ ?_ _ | with_reducible refine Below.alloc ?_ ?_ _ | with_reducible refine Below.setCell ?_ ?_ _ | with_reducible refine Below.drew ?_ | with_reducible refine Go.le_alloc ?_ | with_reducible refine Go.le_growBy ?_ | with_reducible refine Go.le_setCell ?_ | with_reducible refine Go.le_drew ?_ | omega | (dsimp only; omega)))⟩

theorem onS_iff {s : Sh} {i j : Int} : onS s i j = true ↔ (0 ≤ i ∧ i < s.w) ∧ 0 ≤ j ∧ j < s.h := by
  simp only [onS, inR, Bool.and_eq_true, decide_eq_true_eq]
  omega

set_option maxHeartbeats 1000000 in
theorem ron_any (s : Sh) (i j : Int) (b : Bool) (w : World) (hb : onS s i j = b) :
    Calls Tryz.prog 40 #[shV s, .agg #[.int .i64 i, .int .i64 j]] w fun e w' => e = .returned (.bool b) ∧ Below w.heap.size w w' := by
  subst hb
  have hr := onS_iff (s := s) (i := i) (j := j)
  obtain ⟨r, he⟩ : ∃ r, onS s i j = r := ⟨_, rfl⟩
  rw [he] at hr ⊢
  obtain ⟨ax, ay, st, sw, sh, sg⟩ := s
  simp only at hr
  clear he
  by_cases h1 : 0 ≤ i
  · by_cases h2 : i < sw
    · by_cases h3 : 0 ≤ j
      · by_cases h4 : j < sh
        · obtain rfl : r = true := hr.2 ⟨⟨h1, h2⟩, h3, h4⟩
          clear hr
          go_enter Tryz.func40, Tryz.ntmps40
          go_wp2_with fail
          go_ret
          exact ⟨rfl, (by repeat' (first | with_reducible exact Below.refl _ _ | with_reducible exact Nat.le_refl _ | with_reducible assumption | with_reducible refine Go.below_growBy' ?_ ?_ _ | with_reducible refine Below.alloc ?_ ?_ _ | with_reducible refine Below.setCell ?_ ?_ _ | with_reducible refine Below.drew ?_ | with_reducible refine Go.le_alloc ?_ | with_reducible refine Go.le_growBy ?_ | with_reducible refine Go.le_setCell ?_ | with_reducible refine Go.le_drew ?_ | omega | (dsimp only; omega)))⟩
        · obtain rfl : r = false := by cases r with | false => rfl | true => have := hr.1 rfl; omega
          clear hr
          go_enter Tryz.func40, Tryz.ntmps40
          go_wp2_with fail
          go_ret
          exact ⟨rfl, (by repeat' (first | with_reducible exact Below.refl _ _ | with_reducible exact Nat.le_refl _ | with_reducible assumption | with_reducible refine Go.below_growBy' ?_ ?_ _ | with_reducible refine Below.alloc ?_ ?_ _ | with_reducible refine Below.setCell ?_ ?_ _ | with_reducible refine Below.drew ?_ | with_reducible refine Go.le_alloc ?_ | with_reducible refine Go.le_growBy ?_ | with_reducible refine Go.le_setCell ?_ | with_reducible refine Go.le_drew ?_ | omega | (dsimp only; omega)))⟩
      · obtain rfl : r = false := by cases r with | false => rfl | true => have := hr.1 rfl; omega
        clear hr
        go_enter Tryz.func40, Tryz.ntmps40
        go_wp2_with fail
        go_ret
        exact ⟨rfl, (by repeat' (first | with_reducible exact Below.refl _ _ | with_reducible exact Nat.le_refl _ | with_reducible assumption | with_reducible refine Go.below_growBy' ?_ ?_ _ | with_reducible refine Below.alloc ?_ ?_ _ | with_reducible refine Below.setCell ?_ ?_ _ | with_reducible refine Below.drew ?_ | with_reducible refine Go.le_alloc ?_ | with_reducible refine Go.le_growBy ?_ | with_reducible refine Go.le_setCell ?_ | with_reducible refine Go.le_drew ?_ | omega | (dsimp only; omega)))⟩
    · obtain rfl : r = false := by cases r with | false => rfl | true => have := hr.1 rfl; omega
      clear hr
      go_enter Tryz.func40, Tryz.ntmps40
      go_wp2_with fail
      go_ret
      exact ⟨rfl, (by repeat' (first | with_reducible exact Below.refl _ _ | with_reducible exact Nat.le_refl _ | with_reducible assumption | with_reducible refine Go.below_growBy' ?_ ?_ _ | with_reducible refine Below.alloc ?_ ?_ _ | with_reducible refine Below.setCell ?_ ?_ _ | with_reducible refine Below.drew ?_ | with_reducible refine Go.le_alloc ?_ | with_reducible refine Go.le_growBy ?_ | with_reducible refine Go.le_setCell ?_ | with_reducible refine Go.le_drew ?_ | omega | (dsimp only; omega)))⟩
  · obtain rfl : r = false := by cases r with | false => rfl | true => have := hr.1 rfl; omega
    clear hr
    go_enter Tryz.func40, Tryz.ntmps40
    go_wp2_with fail
    go_ret
    exact ⟨rfl, (by repeat' (first | with_reducible exact Below.refl _ _ | with_reducible exact Nat.le_refl _ | with_reducible assumption | with_reducible refine Go.below_growBy' ?_ ?_ _ | with_reducible refine Below.alloc ?_ ?_ _ | with_reducible refine Below.setCell ?_ ?_ _ | with_reducible refine Below.drew ?_ | with_reducible refine Go.le_alloc ?_ | with_reducible refine Go.le_growBy ?_ | with_reducible refine Go.le_setCell ?_ | with_reducible refine Go.le_drew ?_ | omega | (dsimp only; omega)))⟩

theorem checkS_bad {s : Sh} (h : s.st < 1 ∨ 1024 < s.st ∨ s.w < 1 ∨ 80 < s.w ∨ s.h < 1 ∨ 80 < s.h ∨ s.g < 1 ∨ 4 < s.g) : checkS s = 3 := by
  unfold checkS
  rw [if_neg]
  intro h2
  simp only [Bool.and_eq_true, inR_iff] at h2
  omega
theorem checkS_in {s : Sh} (h : (1 ≤ s.st ∧ s.st ≤ 1024) ∧ (1 ≤ s.w ∧ s.w ≤ 80) ∧ (1 ≤ s.h ∧ s.h ≤ 80) ∧ (1 ≤ s.g ∧ s.g ≤ 4)) : checkS s = if rightP s.ax s.ay && rightP (s.ax + s.w * s.st) (s.ay + s.h * s.st) then 0 else 10 := by
  unfold checkS
  rw [if_pos]
  simp only [Bool.and_eq_true, inR_iff]
  omega

/-- a sheet that Check accepts but for its points -/
structure InS (s : Sh) : Prop where
  a1 : 1 ≤ s.st
  a2 : s.st ≤ 1024
  b1 : 1 ≤ s.w
  b2 : s.w ≤ 80
  c1 : 1 ≤ s.h
  c2 : s.h ≤ 80
  d1 : 1 ≤ s.g
  d2 : s.g ≤ 4

set_option maxRecDepth 100000 in
set_option maxHeartbeats 4000000 in
theorem rcheck_bad (s : Sh) (w : World) (hb : s.st < 1 ∨ 1024 < s.st ∨ s.w < 1 ∨ 80 < s.w ∨ s.h < 1 ∨ 80 < s.h ∨ s.g < 1 ∨ 4 < s.g) :
    Calls Tryz.prog 49 #[shV s] w fun e w' => e = .returned (.int .i64 3) ∧ Below w.heap.size w w' := by
  obtain ⟨ax, ay, st, W, H, G⟩ := s
  simp only at hb
  have hb2 : st < 1 ∨ (1 ≤ st ∧ (1024 < st ∨ (st ≤ 1024 ∧ (W < 1 ∨ (1 ≤ W ∧ (80 < W ∨ (W ≤ 80 ∧ (H < 1 ∨ (1 ≤ H ∧ (80 < H ∨ (H ≤ 80 ∧ (G < 1 ∨ (1 ≤ G ∧ 4 < G))))))))))))) := by omega
  clear hb
  rcases hb2 with h | ⟨h1, h | ⟨h2, h | ⟨h3, h | ⟨h4, h | ⟨h5, h | ⟨h6, h | ⟨h7, h⟩⟩⟩⟩⟩⟩⟩ <;>
  · go_enter Tryz.func49, Tryz.ntmps49
    go_wp2_with fail
    go_ret
    exact ⟨rfl, (by repeat' (first | with_reducible exact Below.refl _ _ | with_reducible exact Nat.le_refl _ | with_reducible assumption | with_reducible refine Go.below_growBy' ?_ ?_ _ | with_reducible refine Below.alloc ?_ ?_ _ | with_reducible refine Below.setCell ?_ ?_ _ | with_reducible refine Below.drew ?_ | with_reducible refine Go.le_alloc ?_ | with_reducible refine Go.le_growBy ?_ | with_reducible refine Go.le_setCell ?_ | with_reducible refine Go.le_drew ?_ | omega | (dsimp only; omega)))⟩

set_option maxRecDepth 100000 in
set_option maxHeartbeats 4000000 in
theorem rcheck_far (s : Sh) (w : World) (hi : InS s) (h5 : rightP s.ax s.ay = false) :
    Calls Tryz.prog 49 #[shV s] w fun e w' => e = .returned (.int .i64 10) ∧ Below w.heap.size w w' := by
  obtain ⟨ax, ay, st, W, H, G⟩ := s
  obtain ⟨q10, q11, q20, q21, q30, q31, q40, q41⟩ := hi
  simp only at q10 q11 q20 q21 q30 q31 q40 q41 h5
  replace h5 := Lib.hid h5
  go_enter Tryz.func49, Tryz.ntmps49
  go_wp2_with (first | (go_at_call 50; refine (rright_eq (b := false) (by with_reducible exact h5.out) _).mono ?_; rintro e w' ⟨rfl, hb_⟩; obtain ⟨p, rfl⟩ := grow_of_below hb_; clear hb_) | (go_at_call 50; refine (rright_any _ _ _).mono ?_; rintro e w' ⟨rfl, hb_⟩; obtain ⟨p, rfl⟩ := grow_of_below hb_; clear hb_; generalize rightP _ _ = b9) | fail)
  go_ret
  exact ⟨rfl, (by repeat' (first | with_reducible exact Below.refl _ _ | with_reducible exact Nat.le_refl _ | with_reducible assumption | with_reducible refine Go.below_growBy' ?_ ?_ _ | with_reducible refine Below.alloc ?_ ?_ _ | with_reducible refine Below.setCell ?_ ?_ _ | with_reducible refine Below.drew ?_ | with_reducible refine Go.le_alloc ?_ | with_reducible refine Go.le_growBy ?_ | with_reducible refine Go.le_setCell ?_ | with_reducible refine Go.le_drew ?_ | omega | (dsimp only; omega)))⟩

set_option maxRecDepth 100000 in
set_option maxHeartbeats 4000000 in
theorem rcheck_near (s : Sh) (w : World) (b6 : Bool) (hi : InS s) (h5 : rightP s.ax s.ay = true) (h6 : rightP (s.ax + s.w * s.st) (s.ay + s.h * s.st) = b6) :
    Calls Tryz.prog 49 #[shV s] w fun e w' => e = .returned (.int .i64 (if b6 then 0 else 10)) ∧ Below w.heap.size w w' := by
  obtain ⟨ax, ay, st, W, H, G⟩ := s
  obtain ⟨q10, q11, q20, q21, q30, q31, q40, q41⟩ := hi
  simp only at q10 q11 q20 q21 q30 q31 q40 q41 h5 h6
  have m1 := Int.mul_le_mul (a := W) (b := st) (c := 80) (d := 1024) q21 q11 (by omega) (by omega)
  have m2 := Int.mul_le_mul (a := H) (b := st) (c := 80) (d := 1024) q31 q11 (by omega) (by omega)
  have m3 := Int.mul_nonneg (a := W) (b := st) (by omega) (by omega)
  have m4 := Int.mul_nonneg (a := H) (b := st) (by omega) (by omega)
  have m1 : W * st ≤ 81920 := m1
  have m2 : H * st ≤ 81920 := m2
  have q5 : (-16384 ≤ ax ∧ ax ≤ 16384) ∧ -16384 ≤ ay ∧ ay ≤ 16384 := rightP_iff.1 h5
  obtain ⟨⟨q50, q51⟩, q52, q53⟩ := q5
  replace h5 := Lib.hid h5
  replace h6 := Lib.hid h6
  cases b6 <;>
  · go_enter Tryz.func49, Tryz.ntmps49
    go_wp2_with (go_at_call 50; refine (rright_eq (by first | with_reducible exact h5.out | with_reducible exact h6.out) _).mono ?_; rintro e w' ⟨rfl, hb_⟩; obtain ⟨p, rfl⟩ := grow_of_below hb_; clear hb_)
    go_ret
    exact ⟨by first | rfl | (simp; done), (by repeat' (first | with_reducible exact Below.refl _ _ | with_reducible exact Nat.le_refl _ | with_reducible assumption | with_reducible refine Go.below_growBy' ?_ ?_ _ | with_reducible refine Below.alloc ?_ ?_ _ | with_reducible refine Below.setCell ?_ ?_ _ | with_reducible refine Below.drew ?_ | with_reducible refine Go.le_alloc ?_ | with_reducible refine Go.le_growBy ?_ | with_reducible refine Go.le_setCell ?_ | with_reducible refine Go.le_drew ?_ | omega | (dsimp only; omega)))⟩

theorem rcheck_any (s : Sh) (w : World) :
    Calls Tryz.prog 49 #[shV s] w fun e w' => e = .returned (.int .i64 (checkS s)) ∧ Below w.heap.size w w' := by
  by_cases hb : s.st < 1 ∨ 1024 < s.st ∨ s.w < 1 ∨ 80 < s.w ∨ s.h < 1 ∨ 80 < s.h ∨ s.g < 1 ∨ 4 < s.g
  · rw [checkS_bad hb]
    exact rcheck_bad s w hb
  · have h : (1 ≤ s.st ∧ s.st ≤ 1024) ∧ (1 ≤ s.w ∧ s.w ≤ 80) ∧ (1 ≤ s.h ∧ s.h ≤ 80) ∧ (1 ≤ s.g ∧ s.g ≤ 4) := by omega
    have hi : InS s := ⟨h.1.1, h.1.2, h.2.1.1, h.2.1.2, h.2.2.1.1, h.2.2.1.2, h.2.2.2.1, h.2.2.2.2⟩
    rw [checkS_in h]
    cases h5 : rightP s.ax s.ay with
    | false => exact rcheck_far s w hi h5
    | true => exact rcheck_near s w _ hi h5 rfl
theorem rcheck_eq {s : Sh} {r : Int} (hr : checkS s = r) (w : World) :
    Calls Tryz.prog 49 #[shV s] w fun e w' => e = .returned (.int .i64 r) ∧ Below w.heap.size w w' := by
  have h := rcheck_any s w
  rw [hr] at h
  exact h

set_option maxRecDepth 100000 in
set_option maxHeartbeats 1000000 in
theorem rof_any (s : Sh) (x y : Int) (w : World) :
    Calls Tryz.prog 35 #[shV s, .agg #[.int .i64 x, .int .i64 y]] w fun e w' => e = .returned (.tuple #[.int .i64 (ofS s x y).1, .int .i64 (ofS s x y).2.1, .bool (ofS s x y).2.2]) ∧ Below w.heap.size w w' := by
  obtain ⟨b1, h1⟩ : ∃ b, rightP x y = b := ⟨_, rfl⟩
  by_cases hc : checkS s = 0
  · have hs := okS_of hc
    obtain ⟨i, hi⟩ : ∃ i, dotX s x = i := ⟨_, rfl⟩
    obtain ⟨j, hj⟩ : ∃ j, dotY s y = j := ⟨_, rfl⟩
    obtain ⟨b2, h2⟩ : ∃ b, onS s i j = b := ⟨_, rfl⟩
    have hr : ofS s x y = if b1 = true ∧ b2 = true then (i, j, true) else (0, 0, false) := by
      unfold ofS
      simp only [hc, h1, hi, hj, h2, true_and]
    rw [hr]
    clear hr
    replace hc := Lib.hid hc
    cases b1 with
    | false =>
      replace h1 := Lib.hid h1
      obtain ⟨ax, ay, st, W, H, G⟩ := s
      clear h2 hi hj
      have hre : (if false = true ∧ b2 = true then (i, j, true) else (0, 0, false)) = ((0, 0, false) : Int × Int × Bool) := by simp
      rw [hre]
      clear hre
      go_enter Tryz.func35, Tryz.ntmps35
      go_wp2_with (first | (go_at_call 49; refine (rcheck_eq hc.out _).mono ?_; rintro e w' ⟨rfl, hb_⟩; obtain ⟨p, rfl⟩ := grow_of_below hb_; clear hb_) | (go_at_call 50; refine (rright_eq h1.out _).mono ?_; rintro e w' ⟨rfl, hb_⟩; obtain ⟨p, rfl⟩ := grow_of_below hb_; clear hb_))
      exact bodyPost_ret (v := .tuple #[.int .i64 0, .int .i64 0, .bool false]) (by simp [results, Tryz.results35, go_sem]) rfl ⟨rfl, (by repeat' (first | with_reducible exact Below.refl _ _ | with_reducible exact Nat.le_refl _ | with_reducible assumption | with_reducible refine Go.below_growBy' ?_ ?_ _ | with_reducible refine Below.alloc ?_ ?_ _ | with_reducible refine Below.setCell ?_ ?_ _ | with_reducible refine Below.drew ?_ | with_reducible refine Go.le_alloc ?_ | with_reducible refine Go.le_growBy ?_ | with_reducible refine Go.le_setCell ?_ | with_reducible refine Go.le_drew ?_ | omega | (dsimp only; omega)))⟩
    | true =>
      obtain ⟨⟨x0, x1⟩, y0, y1⟩ := rightP_iff.1 h1
      replace h1 := Lib.hid h1
      replace hi := Lib.hid hi
      replace hj := Lib.hid hj
      replace h2 := Lib.hid h2
      obtain ⟨ax, ay, st, W, H, G⟩ := s
      cases b2 <;>
      · go_enter Tryz.func35, Tryz.ntmps35
        go_wp2_with (first | (go_at_call 49; refine (rcheck_eq hc.out _).mono ?_; rintro e w' ⟨rfl, hb_⟩; obtain ⟨p, rfl⟩ := grow_of_below hb_; clear hb_) | (go_at_call 50; refine (rright_eq h1.out _).mono ?_; rintro e w' ⟨rfl, hb_⟩; obtain ⟨p, rfl⟩ := grow_of_below hb_; clear hb_) | (go_at_call 52; refine (rdot_any ⟨ax, ay, st, W, H, G⟩ x y i j _ hi.out hj.out hs (by omega) (by omega) (by omega) (by omega)).mono ?_; rintro e w' ⟨rfl, hb_⟩; obtain ⟨p, rfl⟩ := grow_of_below hb_; clear hb_) | (go_at_call 40; refine (ron_any ⟨ax, ay, st, W, H, G⟩ i j _ _ h2.out).mono ?_; rintro e w' ⟨rfl, hb_⟩; obtain ⟨p, rfl⟩ := grow_of_below hb_; clear hb_))
        first
          | exact bodyPost_ret (v := .tuple #[.int .i64 0, .int .i64 0, .bool false]) (by simp [results, Tryz.results35, go_sem]) rfl ⟨rfl, (by repeat' (first | with_reducible exact Below.refl _ _ | with_reducible exact Nat.le_refl _ | with_reducible assumption | with_reducible refine Go.below_growBy' ?_ ?_ _ | with_reducible refine Below.alloc ?_ ?_ _ | with_reducible refine Below.setCell ?_ ?_ _ | with_reducible refine Below.drew ?_ | with_reducible refine Go.le_alloc ?_ | with_reducible refine Go.le_growBy ?_ | with_reducible refine Go.le_setCell ?_ | with_reducible refine Go.le_drew ?_ | omega | (dsimp only; omega)))⟩
          | skip
        all_goals
          first | with_reducible refine wp_region_grow2 (by kernel_rfl) (by kernel_rfl) ?_ | with_reducible refine wp_region_grow (by kernel_rfl) (by kernel_rfl) ?_
          repeat (first | go_big_quiet_step (fail) | quiet_step (fail))
          refine wpQuiet_nil ?_
          intro _ hw_
          obtain ⟨p, hw_⟩ := hw_
          subst hw_
          go_wp2_with fail
          exact bodyPost_ret (v := .tuple #[.int .i64 i, .int .i64 j, .bool true]) (by simp [results, Tryz.results35, go_sem]) rfl ⟨rfl, (by repeat' (first | with_reducible exact Below.refl _ _ | with_reducible exact Nat.le_refl _ | with_reducible assumption | with_reducible refine Go.below_growBy' ?_ ?_ _ | with_reducible refine Below.alloc ?_ ?_ _ | with_reducible refine Below.setCell ?_ ?_ _ | with_reducible refine Below.drew ?_ | with_reducible refine Go.le_alloc ?_ | with_reducible refine Go.le_growBy ?_ | with_reducible refine Go.le_setCell ?_ | with_reducible refine Go.le_drew ?_ | omega | (dsimp only; omega)))⟩
  · have hr : ofS s x y = (0, 0, false) := by unfold ofS; rw [if_neg (fun h => hc h.1)]
    rw [hr]
    clear hr
    obtain ⟨c, hcc⟩ : ∃ c, checkS s = c := ⟨_, rfl⟩
    rw [hcc] at hc
    replace hcc := Lib.hid hcc
    replace h1 := Lib.hid h1
    obtain ⟨ax, ay, st, W, H, G⟩ := s
    go_enter Tryz.func35, Tryz.ntmps35
    go_wp2_with (first | (go_at_call 49; refine (rcheck_eq hcc.out _).mono ?_; rintro e w' ⟨rfl, hb_⟩; obtain ⟨p, rfl⟩ := grow_of_below hb_; clear hb_) | (go_at_call 50; refine (rright_eq h1.out _).mono ?_; rintro e w' ⟨rfl, hb_⟩; obtain ⟨p, rfl⟩ := grow_of_below hb_; clear hb_))
    exact bodyPost_ret (v := .tuple #[.int .i64 0, .int .i64 0, .bool false]) (by simp [results, Tryz.results35, go_sem]) rfl ⟨rfl, (by repeat' (first | with_reducible exact Below.refl _ _ | with_reducible exact Nat.le_refl _ | with_reducible assumption | with_reducible refine Go.below_growBy' ?_ ?_ _ | with_reducible refine Below.alloc ?_ ?_ _ | with_reducible refine Below.setCell ?_ ?_ _ | with_reducible refine Below.drew ?_ | with_reducible refine Go.le_alloc ?_ | with_reducible refine Go.le_growBy ?_ | with_reducible refine Go.le_setCell ?_ | with_reducible refine Go.le_drew ?_ | omega | (dsimp only; omega)))⟩
end Go.Proofs.YtjfdbigkbgolmaaGreatDoor
