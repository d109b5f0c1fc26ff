/-
  Chapter 29: sheets: Check, Of and what they call.
-/
import Derived.Test.YtjfdbigkbgolmaaDoorG1
import Derived.Test.YtjfdbigkbgolmaaDoorTail
namespace Go.Proofs.YtjfdbigkbgolmaaDoor
set_option linter.unusedVariables false
set_option linter.unusedSimpArgs false
open Go.RowKit Go.Shelf
attribute [local go_sem] Oper.semAt_some

/-- a sheet's numbers -/
structure Sh where
  ax : Int
  ay : Int
  st : Int
  w : Int
  h : Int
  g : Int
abbrev shV (s : Sh) : Value := .agg #[.int .i64 s.ax, .int .i64 s.ay, .int .i64 s.st, .int .i64 s.w, .int .i64 s.h, .int .i64 s.g]
def inR (lo n hi : Int) : Bool := decide (lo ≤ n) && decide (n ≤ hi)
theorem inR_iff {lo n hi : Int} : inR lo n hi = true ↔ lo ≤ n ∧ n ≤ hi := by simp [inR]
def checkS (s : Sh) : Int :=
  if inR 1 s.st 1024 && inR 1 s.w 80 && inR 1 s.h 80 && inR 1 s.g 4 then
    if rightP s.ax s.ay && rightP (s.ax + s.w * s.st) (s.ay + s.h * s.st) then 0 else 10
  else 3

theorem within_eq {n lo hi : Int} {b : Bool} (h : inR lo n hi = b) (w : World) :
    Calls Tryd.prog 22 #[.int .i64 n, .int .i64 lo, .int .i64 hi] w fun e w' => e = .returned (.bool b) ∧ w = w' := by
  have h' := within_any n lo hi w
  rw [show (decide (lo ≤ n) && decide (n ≤ hi)) = b from h] at h'
  exact h'
theorem right_eq {x y : Int} {b : Bool} (h : rightP x y = b) (w : World) :
    Calls Tryd.prog 23 #[.agg #[.int .i64 x, .int .i64 y]] w fun e w' => e = .returned (.bool b) ∧ Below w.heap.size w w' := by
  have h' := right_any x y w
  rw [h] at h'
  exact h'

theorem add_any (x y a b : Int) (w : World) (h1 : -4611686018427387904 ≤ x) (h2 : x ≤ 4611686018427387903) (h3 : -4611686018427387904 ≤ y) (h4 : y ≤ 4611686018427387903) (h5 : -4611686018427387904 ≤ a) (h6 : a ≤ 4611686018427387903) (h7 : -4611686018427387904 ≤ b) (h8 : b ≤ 4611686018427387903) :
    Calls Tryd.prog 24 #[.agg #[.int .i64 x, .int .i64 y], .agg #[.int .i64 a, .int .i64 b]] w fun e w' => e = .returned (.agg #[.int .i64 (x + a), .int .i64 (y + b)]) ∧ Below w.heap.size w w' := by
  go_enter Tryd.func24, Tryd.ntmps24
  go_wp2_with fail
  exact bodyPost_ret (v := .agg #[.int .i64 (x + a), .int .i64 (y + b)]) (by simp [results, Tryd.results24, go_sem]) rfl ⟨rfl, (by repeat' (first | with_reducible exact Below.refl _ _ | with_reducible exact Nat.le_refl _ | with_reducible assumption | with_reducible refine Go.below_growBy' ?_ ?_ _ | with_reducible refine Below.alloc ?_ ?_ _ | with_reducible refine Below.setCell ?_ ?_ _ | with_reducible refine Below.drew ?_ | with_reducible refine Go.le_alloc ?_ | with_reducible refine Go.le_growBy ?_ | with_reducible refine Go.le_setCell ?_ | with_reducible refine Go.le_drew ?_ | omega | (dsimp only; omega)))⟩

set_option maxHeartbeats 1000000 in
theorem check_any (s : Sh) (w : World) (f0 : fits s.ax) (f1 : fits s.ay) :
    Calls Tryd.prog 9 #[shV s] w fun e w' => e = .returned (.int .i64 (checkS s)) ∧ Below w.heap.size w w' := by
  obtain ⟨ax, ay, st, W, H, G⟩ := s
  obtain ⟨b1, h1⟩ : ∃ b, inR 1 st 1024 = b := ⟨_, rfl⟩
  obtain ⟨b2, h2⟩ : ∃ b, inR 1 W 80 = b := ⟨_, rfl⟩
  obtain ⟨b3, h3⟩ : ∃ b, inR 1 H 80 = b := ⟨_, rfl⟩
  obtain ⟨b4, h4⟩ : ∃ b, inR 1 G 4 = b := ⟨_, rfl⟩
  obtain ⟨b5, h5⟩ : ∃ b, rightP ax ay = b := ⟨_, rfl⟩
  obtain ⟨b6, h6⟩ : ∃ b, rightP (ax + W * st) (ay + H * st) = b := ⟨_, rfl⟩
  have hr : checkS ⟨ax, ay, st, W, H, G⟩ = if b1 && b2 && b3 && b4 then (if b5 && b6 then 0 else 10) else 3 := by
    unfold checkS
    simp only [h1, h2, h3, h4, h5, h6]
  rw [hr]
  clear hr
  cases b1 with
  | false =>
    replace h1 := Lib.hid h1
    clear h2 h3 h4 h5 h6
    go_enter Tryd.func9, Tryd.ntmps9
    go_wp2_with (go_at_call 22; refine (within_eq (by first | with_reducible exact h1.out) _).mono ?_; rintro e w' ⟨rfl, rfl⟩)
    go_ret
    exact ⟨rfl, (by repeat' (first | with_reducible exact Below.refl _ _ | with_reducible exact Nat.le_refl _ | with_reducible assumption | with_reducible refine Go.below_growBy' ?_ ?_ _ | with_reducible refine Below.alloc ?_ ?_ _ | with_reducible refine Below.setCell ?_ ?_ _ | with_reducible refine Below.drew ?_ | with_reducible refine Go.le_alloc ?_ | with_reducible refine Go.le_growBy ?_ | with_reducible refine Go.le_setCell ?_ | with_reducible refine Go.le_drew ?_ | omega | (dsimp only; omega)))⟩
  | true =>
  cases b2 with
  | false =>
    replace h1 := Lib.hid h1
    replace h2 := Lib.hid h2
    clear h3 h4 h5 h6
    go_enter Tryd.func9, Tryd.ntmps9
    go_wp2_with (go_at_call 22; refine (within_eq (by first | with_reducible exact h1.out | with_reducible exact h2.out) _).mono ?_; rintro e w' ⟨rfl, rfl⟩)
    go_ret
    exact ⟨rfl, (by repeat' (first | with_reducible exact Below.refl _ _ | with_reducible exact Nat.le_refl _ | with_reducible assumption | with_reducible refine Go.below_growBy' ?_ ?_ _ | with_reducible refine Below.alloc ?_ ?_ _ | with_reducible refine Below.setCell ?_ ?_ _ | with_reducible refine Below.drew ?_ | with_reducible refine Go.le_alloc ?_ | with_reducible refine Go.le_growBy ?_ | with_reducible refine Go.le_setCell ?_ | with_reducible refine Go.le_drew ?_ | omega | (dsimp only; omega)))⟩
  | true =>
  cases b3 with
  | false =>
    replace h1 := Lib.hid h1
    replace h2 := Lib.hid h2
    replace h3 := Lib.hid h3
    clear h4 h5 h6
    go_enter Tryd.func9, Tryd.ntmps9
    go_wp2_with (go_at_call 22; refine (within_eq (by first | with_reducible exact h1.out | with_reducible exact h2.out | with_reducible exact h3.out) _).mono ?_; rintro e w' ⟨rfl, rfl⟩)
    go_ret
    exact ⟨rfl, (by repeat' (first | with_reducible exact Below.refl _ _ | with_reducible exact Nat.le_refl _ | with_reducible assumption | with_reducible refine Go.below_growBy' ?_ ?_ _ | with_reducible refine Below.alloc ?_ ?_ _ | with_reducible refine Below.setCell ?_ ?_ _ | with_reducible refine Below.drew ?_ | with_reducible refine Go.le_alloc ?_ | with_reducible refine Go.le_growBy ?_ | with_reducible refine Go.le_setCell ?_ | with_reducible refine Go.le_drew ?_ | omega | (dsimp only; omega)))⟩
  | true =>
  cases b4 with
  | false =>
    replace h1 := Lib.hid h1
    replace h2 := Lib.hid h2
    replace h3 := Lib.hid h3
    replace h4 := Lib.hid h4
    clear h5 h6
    go_enter Tryd.func9, Tryd.ntmps9
    go_wp2_with (go_at_call 22; refine (within_eq (by first | with_reducible exact h1.out | with_reducible exact h2.out | with_reducible exact h3.out | with_reducible exact h4.out) _).mono ?_; rintro e w' ⟨rfl, rfl⟩)
    go_ret
    exact ⟨rfl, (by repeat' (first | with_reducible exact Below.refl _ _ | with_reducible exact Nat.le_refl _ | with_reducible assumption | with_reducible refine Go.below_growBy' ?_ ?_ _ | with_reducible refine Below.alloc ?_ ?_ _ | with_reducible refine Below.setCell ?_ ?_ _ | with_reducible refine Below.drew ?_ | with_reducible refine Go.le_alloc ?_ | with_reducible refine Go.le_growBy ?_ | with_reducible refine Go.le_setCell ?_ | with_reducible refine Go.le_drew ?_ | omega | (dsimp only; omega)))⟩
  | true =>
  have q1 := inR_iff.1 h1
  have q2 := inR_iff.1 h2
  have q3 := inR_iff.1 h3
  obtain ⟨q10, q11⟩ := q1
  obtain ⟨q20, q21⟩ := q2
  obtain ⟨q30, q31⟩ := q3
  have m1 := Int.mul_le_mul (a := W) (b := st) (c := 80) (d := 1024) q21 q11 (by omega) (by omega)
  have m2 := Int.mul_le_mul (a := H) (b := st) (c := 80) (d := 1024) q31 q11 (by omega) (by omega)
  have m3 := Int.mul_nonneg (a := W) (b := st) (by omega) (by omega)
  have m4 := Int.mul_nonneg (a := H) (b := st) (by omega) (by omega)
  have m1 : W * st ≤ 81920 := m1
  have m2 : H * st ≤ 81920 := m2
  cases b5 with
  | false =>
    replace h1 := Lib.hid h1
    replace h2 := Lib.hid h2
    replace h3 := Lib.hid h3
    replace h4 := Lib.hid h4
    replace h5 := Lib.hid h5
    clear h6
    go_enter Tryd.func9, Tryd.ntmps9
    go_wp2_with (first | (go_at_call 22; refine (within_eq (by first | with_reducible exact h1.out | with_reducible exact h2.out | with_reducible exact h3.out | with_reducible exact h4.out) _).mono ?_; rintro e w' ⟨rfl, rfl⟩) | (go_at_call 23; refine (right_eq (by first | with_reducible exact h5.out) _).mono ?_; rintro e w' ⟨rfl, hb_⟩; obtain ⟨p, rfl⟩ := grow_of_below hb_; clear hb_))
    go_ret
    exact ⟨rfl, (by repeat' (first | with_reducible exact Below.refl _ _ | with_reducible exact Nat.le_refl _ | with_reducible assumption | with_reducible refine Go.below_growBy' ?_ ?_ _ | with_reducible refine Below.alloc ?_ ?_ _ | with_reducible refine Below.setCell ?_ ?_ _ | with_reducible refine Below.drew ?_ | with_reducible refine Go.le_alloc ?_ | with_reducible refine Go.le_growBy ?_ | with_reducible refine Go.le_setCell ?_ | with_reducible refine Go.le_drew ?_ | omega | (dsimp only; omega)))⟩
  | true =>
  have q5 : (-16384 ≤ ax ∧ ax ≤ 16384) ∧ -16384 ≤ ay ∧ ay ≤ 16384 := by simpa [rightP] using h5
  obtain ⟨⟨q50, q51⟩, q52, q53⟩ := q5
  cases b6 with
  | false =>
    replace h1 := Lib.hid h1
    replace h2 := Lib.hid h2
    replace h3 := Lib.hid h3
    replace h4 := Lib.hid h4
    replace h5 := Lib.hid h5
    replace h6 := Lib.hid h6
    go_enter Tryd.func9, Tryd.ntmps9
    go_wp2_with (first | (go_at_call 22; refine (within_eq (by first | with_reducible exact h1.out | with_reducible exact h2.out | with_reducible exact h3.out | with_reducible exact h4.out) _).mono ?_; rintro e w' ⟨rfl, rfl⟩) | (go_at_call 23; refine (right_eq (by first | with_reducible exact h5.out | with_reducible exact h6.out) _).mono ?_; rintro e w' ⟨rfl, hb_⟩; obtain ⟨p, rfl⟩ := grow_of_below hb_; clear hb_) | (go_at_call 24; refine (add_any _ _ _ _ _ (by omega) (by omega) (by omega) (by omega) (by omega) (by omega) (by omega) (by omega)).mono ?_; rintro e w' ⟨rfl, hb_⟩; obtain ⟨p, rfl⟩ := grow_of_below hb_; clear hb_))
    go_ret
    exact ⟨rfl, (by repeat' (first | with_reducible exact Below.refl _ _ | with_reducible exact Nat.le_refl _ | with_reducible assumption | with_reducible refine Go.below_growBy' ?_ ?_ _ | with_reducible refine Below.alloc ?_ ?_ _ | with_reducible refine Below.setCell ?_ ?_ _ | with_reducible refine Below.drew ?_ | with_reducible refine Go.le_alloc ?_ | with_reducible refine Go.le_growBy ?_ | with_reducible refine Go.le_setCell ?_ | with_reducible refine Go.le_drew ?_ | omega | (dsimp only; omega)))⟩
  | true =>
    replace h1 := Lib.hid h1
    replace h2 := Lib.hid h2
    replace h3 := Lib.hid h3
    replace h4 := Lib.hid h4
    replace h5 := Lib.hid h5
    replace h6 := Lib.hid h6
    go_enter Tryd.func9, Tryd.ntmps9
    go_wp2_with (first | (go_at_call 22; refine (within_eq (by first | with_reducible exact h1.out | with_reducible exact h2.out | with_reducible exact h3.out | with_reducible exact h4.out) _).mono ?_; rintro e w' ⟨rfl, rfl⟩) | (go_at_call 23; refine (right_eq (by first | with_reducible exact h5.out | with_reducible exact h6.out) _).mono ?_; rintro e w' ⟨rfl, hb_⟩; obtain ⟨p, rfl⟩ := grow_of_below hb_; clear hb_) | (go_at_call 24; refine (add_any _ _ _ _ _ (by omega) (by omega) (by omega) (by omega) (by omega) (by omega) (by omega) (by omega)).mono ?_; rintro e w' ⟨rfl, hb_⟩; obtain ⟨p, rfl⟩ := grow_of_below hb_; clear hb_))
    go_ret
    exact ⟨rfl, (by repeat' (first | with_reducible exact Below.refl _ _ | with_reducible exact Nat.le_refl _ | with_reducible assumption | with_reducible refine Go.below_growBy' ?_ ?_ _ | with_reducible refine Below.alloc ?_ ?_ _ | with_reducible refine Below.setCell ?_ ?_ _ | with_reducible refine Below.drew ?_ | with_reducible refine Go.le_alloc ?_ | with_reducible refine Go.le_growBy ?_ | with_reducible refine Go.le_setCell ?_ | with_reducible refine Go.le_drew ?_ | omega | (dsimp only; omega)))⟩
end Go.Proofs.YtjfdbigkbgolmaaDoor
